import Derived.Test.YtcmofedfbjpjlaaRingLaw
import Derived.Test.YtcmofedfbjpjlaaWApart
import Derived.Test.YtcmofedfbjpjlaaWLast
import Derived.Handy
import Derived.RegionTactic
import Derived.BigRegion
/- The document's queue, walked. -/
set_option linter.unusedVariables false
set_option linter.unusedSimpArgs false
namespace Go.Proofs.Ytcmofedfbjpjlaa.RingRef
open Go.RowKit Go.Proofs.YtcmofedfbjpjlaaW.PrintWords Go.Proofs.YtcmofedfbjpjlaaW.PrintLast Go.Proofs.Ytcmofedfbjpjlaa.Nats Go.Proofs.Ytcmofedfbjpjlaa.RingLaw Go.Proofs.Ytcmofedfbjpjlaa.RingQInt

theorem info_int : (Try.prog.info? 3).map (fun i => (i.zero, i.size, i.bytes)) = some (some (.int .i64 0), 1, 8) := by kernel_rfl

theorem fresh_of {w : World} {b base : Nat} {ok : Nat → Prop} {ad : Addr} {n c : Nat} {xs : List Int} (h : Kd.R (Kd.int .i64) 3 w base ok (.slice (some ad) n c) xs) (hb : b ≤ base) : b ≤ ad.block := by
  obtain ⟨inner, ho⟩ := Kd.R_own h
  exact Nat.le_trans hb (own_base ho ad.block (by simp [Value.ownBlock]))

set_option maxRecDepth 100000 in
set_option maxHeartbeats 2000000 in
theorem put_room (most lost : Nat) (A : Option Addr) (c : Nat) (Q : List Int) (x : Int) (n : Nat) (hn : Q.length = n) (h64 : n ≤ 64) (hm : n < most) (hmm : most ≤ 64) (hc : n ≤ c) (W : World) (hC : Kd.C (Kd.int .i64) W A n Q) :
    Calls Try.prog 22 #[.agg #[.int .i64 (most : Int), .int .i64 (lost : Int), .slice A n c], .int .i64 x] W fun e w' =>
      ∃ A' c', e = .returned (.tuple #[.agg #[.int .i64 (most : Int), .int .i64 (lost : Int), .slice A' (n + 1) c'], .bool true]) ∧ (∀ ad, A' = some ad → W.heap.size ≤ ad.block) ∧ n + 1 ≤ c' ∧ Kd.C (Kd.int .i64) w' A' (n + 1) (Q ++ [x]) ∧ Below W.heap.size W w' := by
  have Hn := Lib.hid hn
  clear hn
  have hB0 : Below W.heap.size W ((W.alloc (.cells #[.int .i64 (most : Int), .int .i64 (lost : Int), .slice A n c] 37)).alloc (.cells #[.int .i64 0, .int .i64 0, .slice none 0 0] 37)) := below_alloc (below_alloc (Below.refl _ _) _) _
  have hC0 := Kd.C_below hC hB0
  have x0 : ((W.alloc (.cells #[.int .i64 (most : Int), .int .i64 (lost : Int), .slice A n c] 37)).alloc (.cells #[.int .i64 0, .int .i64 0, .slice none 0 0] 37)).heap[W.heap.size]? = some (.cells #[.int .i64 (most : Int), .int .i64 (lost : Int), .slice A n c] 37 (0, 0)) := blk_alloc (blk_new _ _) _
  have x1 : ((W.alloc (.cells #[.int .i64 (most : Int), .int .i64 (lost : Int), .slice A n c] 37)).alloc (.cells #[.int .i64 0, .int .i64 0, .slice none 0 0] 37)).heap[W.heap.size + 1]? = some (.cells #[.int .i64 0, .int .i64 0, .slice none 0 0] 37 (0, 0)) := by
    have := blk_new (W.alloc (.cells #[.int .i64 (most : Int), .int .i64 (lost : Int), .slice A n c] 37)) (.cells #[.int .i64 0, .int .i64 0, .slice none 0 0] 37)
    rwa [World.size_alloc] at this
  have hinfo := info_int
  have t9 : decide ((n : Int) + 1 > (most : Int)) = false := by simp; omega
  have t8 : ¬ (most < n + 1) := by omega
  have t7 : ¬ ((most : Int) < (n : Int) + 1) := by omega
  have el : ∀ (v : Value) (W' : World), Kd.R (Kd.int .i64) 3 W' W.heap.size (fun _ => True) v (Q ++ [x]) → ∃ g c', v = .slice (some ⟨g, 0, none⟩) (n + 1) c' := by
    intro v W' h
    obtain ⟨g, c', e, _⟩ := Kd.R_form h (by simp)
    rw [List.length_append, List.length_singleton, Hn.out] at e
    exact ⟨g, c', e⟩
  have Hel := Lib.hid el
  clear el
  go_enter Try.func22, Try.ntmps22
  go_wp2_with (first
    | ((with_reducible refine gate_dst (N := 7) rfl ?_); refine Kd.R_lit (Kd.int .i64) _ 3 ?hg (N := 7) ?hd (xs := ([] : List Int)) (inner := []) (ok := fun _ => True) (okp := fun _ => True) ?hr ?hp (fun _ hk => hk) trivial (Below.refl _ _) (Nat.le_refl _) (by simp) ?_; (case hd => rfl); (case hg => rfl); (case hr => first | (go_simp; done) | (go_simp; rfl)); (case hp => exact Reps.none _ _); intro v4 w4 hR4 hb4 hg4 hn4; have hC4 := Kd.C_below hC0 hb4; have y0 := blk_below x0 hb4; have y1 := blk_below x1 hb4; have z2 : w4.cell? ⟨W.heap.size, 2, none⟩ = some (.slice A n c) := blk_cell y0 2)
    | ((with_reducible refine gate_dst (N := 10) rfl ?_); refine Kd.R_append_row (Value.int .i64) 0 _ rfl (.tmp 7) (.tmp 9) 33 3 (.int .i64 0) 8 rfl Try.underlying33 hinfo rfl (by decide) v4 [] Q _ _ _ (fun _ => True) rfl rfl (fun _ _ => trivial) hR4 hC4 hb4 hb4.size ?aZ ?_; (case aZ => simp; omega); intro v5 w5 hR5 hb5 hg5 hn5; rw [List.nil_append] at hR5)
    | ((with_reducible refine gate_dst (N := 13) rfl ?_); refine Kd.R_append (Kd.int .i64) _ rfl (.tmp 10) (.tmp 12) 33 3 (.int .i64 0) 8 rfl Try.underlying33 hinfo rfl (by decide) (by decide) v5 Q x [.int .i64 x] (fun _ => True) (fun _ => False) rfl rfl ?aM (fun _ h => h.elim) (fun _ _ => trivial) hR5 hb5 hb5.size ?aZ ?_; (case aM => exact rfl); (case aZ => rw [Hn.out]; omega); intro v6 w6 hR6 hb6 hg6 hn6; have hB6 := bthen hB0 hb6; obtain ⟨g6, c6, e6⟩ := Hel.out _ _ (Kd.R_lower hR6 hB0.size); subst e6; have y0 := blk_below x0 hb6; have y1 := blk_below x1 hb6; have r0 : w6.cell? ⟨W.heap.size, 0, none⟩ = some (.int .i64 (most : Int)) := blk_cell y0 0; have r1 : w6.cell? ⟨W.heap.size, 1, none⟩ = some (.int .i64 (lost : Int)) := blk_cell y0 1; have r2 : w6.cell? ⟨W.heap.size + 1, 0, none⟩ = some (.int .i64 0) := blk_cell y1 0; have r3 : w6.cell? ⟨W.heap.size + 1, 1, none⟩ = some (.int .i64 0) := blk_cell y1 1; have r4 : w6.cell? ⟨W.heap.size + 1, 2, none⟩ = some (.slice none 0 0) := blk_cell y1 2; have q0 : w6.frozen? ⟨W.heap.size + 1, 0, none⟩ = false := blk_frozen y1 0; have q1 : w6.frozen? ⟨W.heap.size + 1, 1, none⟩ = false := blk_frozen y1 1; have q2 : w6.frozen? ⟨W.heap.size + 1, 2, none⟩ = false := blk_frozen y1 2)
    | fail)
  have hlow := Kd.R_lower hR6 hB0.size
  obtain ⟨hl1, hl2, hl3⟩ := Kd.R_reads' hlow
  have hlow2 := Kd.R_far (ok := fun k => k ≠ W.heap.size + 1) (Kd.R_mono (Kd.R_bound hR6) (fun k hk => by have := hk.2.1; simp at this; omega)) (p := ⟨W.heap.size + 1, 0, none⟩) (fun k hk => hk) (.int .i64 (most : Int))
  have hlow3 := Kd.R_far hlow2 (p := ⟨W.heap.size + 1, 1, none⟩) (fun k hk => hk) (.int .i64 (lost : Int))
  have hlow4 := Kd.R_far hlow3 (p := ⟨W.heap.size + 1, 2, none⟩) (fun k hk => hk) (.slice (some ⟨g6, 0, none⟩) (n + 1) c6)
  obtain ⟨hm1, hm2, hm3⟩ := Kd.R_reads' hlow4
  have hB7 : Below W.heap.size W (((w6.setCell ⟨W.heap.size + 1, 0, none⟩ (.int .i64 (most : Int))).setCell ⟨W.heap.size + 1, 1, none⟩ (.int .i64 (lost : Int))).setCell ⟨W.heap.size + 1, 2, none⟩ (.slice (some ⟨g6, 0, none⟩) (n + 1) c6)) := ((hB6.setCell (p := ⟨W.heap.size + 1, 0, none⟩) (by simp) _).setCell (p := ⟨W.heap.size + 1, 1, none⟩) (by simp) _).setCell (p := ⟨W.heap.size + 1, 2, none⟩) (by simp) _
  have k5 := blk_set (blk_set (blk_set y1 0 (.int .i64 (most : Int))) 1 (.int .i64 (lost : Int))) 2 (.slice (some ⟨g6, 0, none⟩) (n + 1) c6)
  obtain ⟨W7, hW7⟩ : ∃ W7, W7 = ((w6.setCell ⟨W.heap.size + 1, 0, none⟩ (.int .i64 (most : Int))).setCell ⟨W.heap.size + 1, 1, none⟩ (.int .i64 (lost : Int))).setCell ⟨W.heap.size + 1, 2, none⟩ (.slice (some ⟨g6, 0, none⟩) (n + 1) c6) := ⟨_, rfl⟩
  rw [← hW7] at hm3 hB7 k5 ⊢
  clear hW7
  have s0 : W7.cell? ⟨W.heap.size + 1, 0, none⟩ = some (.int .i64 (most : Int)) := blk_cell k5 0
  have s1 : W7.cell? ⟨W.heap.size + 1, 1, none⟩ = some (.int .i64 (lost : Int)) := blk_cell k5 1
  have s2 : W7.cell? ⟨W.heap.size + 1, 2, none⟩ = some (.slice (some ⟨g6, 0, none⟩) (n + 1) c6) := blk_cell k5 2
  refine bodyPost_ret (by simp [results, Try.results22, go_sem, s0, s1, s2]; try rfl) rfl ?_
  have he : (Q ++ [x]).length = n + 1 := by rw [List.length_append, List.length_singleton, Hn.out]
  rw [he] at hm3
  exact ⟨_, _, rfl, fun ad h => by cases h; exact fresh_of hR6 hB0.size, hl2, hm3, hB7⟩
set_option maxRecDepth 100000 in
set_option maxHeartbeats 2000000 in
theorem put_full (most lost : Nat) (A : Option Addr) (c : Nat) (Q : List Int) (x : Int) (n : Nat) (hn : Q.length = n) (h64 : n ≤ 64) (h1 : 1 ≤ n) (hm : n = most) (hlo : lost ≤ 1000) (hmm : most ≤ 64) (hc : n ≤ c) (W : World) (hC : Kd.C (Kd.int .i64) W A n Q) :
    Calls Try.prog 22 #[.agg #[.int .i64 (most : Int), .int .i64 (lost : Int), .slice A n c], .int .i64 x] W fun e w' =>
      ∃ A' c', e = .returned (.tuple #[.agg #[.int .i64 (most : Int), .int .i64 ((lost + 1 : Nat) : Int), .slice A' n c'], .bool false]) ∧ (∀ ad, A' = some ad → W.heap.size ≤ ad.block) ∧ n ≤ c' ∧ Kd.C (Kd.int .i64) w' A' n ((Q ++ [x]).drop 1) ∧ Below W.heap.size W w' := by
  have Hn := Lib.hid hn
  clear hn
  have hB0 : Below W.heap.size W ((W.alloc (.cells #[.int .i64 (most : Int), .int .i64 (lost : Int), .slice A n c] 37)).alloc (.cells #[.int .i64 0, .int .i64 0, .slice none 0 0] 37)) := below_alloc (below_alloc (Below.refl _ _) _) _
  have hC0 := Kd.C_below hC hB0
  have x0 : ((W.alloc (.cells #[.int .i64 (most : Int), .int .i64 (lost : Int), .slice A n c] 37)).alloc (.cells #[.int .i64 0, .int .i64 0, .slice none 0 0] 37)).heap[W.heap.size]? = some (.cells #[.int .i64 (most : Int), .int .i64 (lost : Int), .slice A n c] 37 (0, 0)) := blk_alloc (blk_new _ _) _
  have x1 : ((W.alloc (.cells #[.int .i64 (most : Int), .int .i64 (lost : Int), .slice A n c] 37)).alloc (.cells #[.int .i64 0, .int .i64 0, .slice none 0 0] 37)).heap[W.heap.size + 1]? = some (.cells #[.int .i64 0, .int .i64 0, .slice none 0 0] 37 (0, 0)) := by
    have := blk_new (W.alloc (.cells #[.int .i64 (most : Int), .int .i64 (lost : Int), .slice A n c] 37)) (.cells #[.int .i64 0, .int .i64 0, .slice none 0 0] 37)
    rwa [World.size_alloc] at this
  have hinfo := info_int
  have t9 : decide ((n : Int) + 1 > (most : Int)) = true := by simp; omega
  have t8 : most < n + 1 := by omega
  have t7 : (most : Int) < (n : Int) + 1 := by omega
  have e1 : wrap64 ((lost : Int) + 1) = ((lost + 1 : Nat) : Int) := by rw [IntWalk.wrap64_in _ (by omega)]; simp
  clear hm
  have el : ∀ (v : Value) (W' : World), Kd.R (Kd.int .i64) 3 W' W.heap.size (fun _ => True) v (Q ++ [x]) → ∃ g c', v = .slice (some ⟨g, 0, none⟩) (n + 1) c' := by
    intro v W' h
    obtain ⟨g, c', e, _⟩ := Kd.R_form h (by simp)
    rw [List.length_append, List.length_singleton, Hn.out] at e
    exact ⟨g, c', e⟩
  have Hel := Lib.hid el
  clear el
  go_enter Try.func22, Try.ntmps22
  go_wp2_with (first
    | ((with_reducible refine gate_dst (N := 7) rfl ?_); refine Kd.R_lit (Kd.int .i64) _ 3 ?hg (N := 7) ?hd (xs := ([] : List Int)) (inner := []) (ok := fun _ => True) (okp := fun _ => True) ?hr ?hp (fun _ hk => hk) trivial (Below.refl _ _) (Nat.le_refl _) (by simp) ?_; (case hd => rfl); (case hg => rfl); (case hr => first | (go_simp; done) | (go_simp; rfl)); (case hp => exact Reps.none _ _); intro v4 w4 hR4 hb4 hg4 hn4; have hC4 := Kd.C_below hC0 hb4; have y0 := blk_below x0 hb4; have y1 := blk_below x1 hb4; have z2 : w4.cell? ⟨W.heap.size, 2, none⟩ = some (.slice A n c) := blk_cell y0 2)
    | ((with_reducible refine gate_dst (N := 10) rfl ?_); refine Kd.R_append_row (Value.int .i64) 0 _ rfl (.tmp 7) (.tmp 9) 33 3 (.int .i64 0) 8 rfl Try.underlying33 hinfo rfl (by decide) v4 [] Q _ _ _ (fun _ => True) rfl rfl (fun _ _ => trivial) hR4 hC4 hb4 hb4.size ?aZ ?_; (case aZ => simp; omega); intro v5 w5 hR5 hb5 hg5 hn5; rw [List.nil_append] at hR5)
    | ((with_reducible refine gate_dst (N := 13) rfl ?_); refine Kd.R_append (Kd.int .i64) _ rfl (.tmp 10) (.tmp 12) 33 3 (.int .i64 0) 8 rfl Try.underlying33 hinfo rfl (by decide) (by decide) v5 Q x [.int .i64 x] (fun _ => True) (fun _ => False) rfl rfl ?aM (fun _ h => h.elim) (fun _ _ => trivial) hR5 hb5 hb5.size ?aZ ?_; (case aM => exact rfl); (case aZ => rw [Hn.out]; omega); intro v6 w6 hR6 hb6 hg6 hn6; have hB6 := bthen hB0 hb6; obtain ⟨g6, c6, e6⟩ := Hel.out _ _ (Kd.R_lower hR6 hB0.size); subst e6; have y0 := blk_below x0 hb6; have y1 := blk_below x1 hb6; have r0 : w6.cell? ⟨W.heap.size, 0, none⟩ = some (.int .i64 (most : Int)) := blk_cell y0 0; have r1 : w6.cell? ⟨W.heap.size, 1, none⟩ = some (.int .i64 (lost : Int)) := blk_cell y0 1; have r2 : w6.cell? ⟨W.heap.size + 1, 0, none⟩ = some (.int .i64 0) := blk_cell y1 0; have r3 : w6.cell? ⟨W.heap.size + 1, 1, none⟩ = some (.int .i64 0) := blk_cell y1 1; have r4 : w6.cell? ⟨W.heap.size + 1, 2, none⟩ = some (.slice none 0 0) := blk_cell y1 2; have q0 : w6.frozen? ⟨W.heap.size + 1, 0, none⟩ = false := blk_frozen y1 0; have q1 : w6.frozen? ⟨W.heap.size + 1, 1, none⟩ = false := blk_frozen y1 1; have q2 : w6.frozen? ⟨W.heap.size + 1, 2, none⟩ = false := blk_frozen y1 2)
    | fail)
  have hlow := Kd.R_lower hR6 hB0.size
  obtain ⟨hl1, hl2, hl3⟩ := Kd.R_reads' hlow
  have hc6 : ¬ c6 = 1 := by omega
  have HL := Lib.hid hl1
  clear hl1 hl3 hlow
  go_region
  have hlow2 := Kd.R_far (ok := fun k => k ≠ W.heap.size + 1) (Kd.R_mono (Kd.R_bound hR6) (fun k hk => by have := hk.2.1; simp at this; omega)) (p := ⟨W.heap.size + 1, 0, none⟩) (fun k hk => hk) (.int .i64 (most : Int))
  have hlow3 := Kd.R_far hlow2 (p := ⟨W.heap.size + 1, 1, none⟩) (fun k hk => hk) (.int .i64 ((lost : Int) + 1))
  have hlow4 := Kd.R_below (Kd.R_far hlow3 (p := ⟨W.heap.size + 1, 2, none⟩) (fun k hk => hk) (.slice (some ⟨g6, 1, none⟩) n (c6 - 1))) (below_drew (Below.refl _ _))
  obtain ⟨hm1, hm2, hm3⟩ := Kd.R_reads' hlow4
  have hB7 : Below W.heap.size W (((w6.setCell ⟨W.heap.size + 1, 0, none⟩ (.int .i64 (most : Int))).setCell ⟨W.heap.size + 1, 1, none⟩ (.int .i64 ((lost : Int) + 1))).setCell ⟨W.heap.size + 1, 2, none⟩ (.slice (some ⟨g6, 1, none⟩) n (c6 - 1))).drew := below_drew (((hB6.setCell (p := ⟨W.heap.size + 1, 0, none⟩) (by simp) _).setCell (p := ⟨W.heap.size + 1, 1, none⟩) (by simp) _).setCell (p := ⟨W.heap.size + 1, 2, none⟩) (by simp) _)
  have k5 := blk_drew (blk_set (blk_set (blk_set y1 0 (.int .i64 (most : Int))) 1 (.int .i64 ((lost : Int) + 1))) 2 (.slice (some ⟨g6, 1, none⟩) n (c6 - 1)))
  obtain ⟨W7, hW7⟩ : ∃ W7, W7 = (((w6.setCell ⟨W.heap.size + 1, 0, none⟩ (.int .i64 (most : Int))).setCell ⟨W.heap.size + 1, 1, none⟩ (.int .i64 ((lost : Int) + 1))).setCell ⟨W.heap.size + 1, 2, none⟩ (.slice (some ⟨g6, 1, none⟩) n (c6 - 1))).drew := ⟨_, rfl⟩
  rw [← hW7] at hm3 hB7 k5
  try rw [← hW7]
  clear hW7
  have s0 : W7.cell? ⟨W.heap.size + 1, 0, none⟩ = some (.int .i64 (most : Int)) := blk_cell k5 0
  have s1 : W7.cell? ⟨W.heap.size + 1, 1, none⟩ = some (.int .i64 ((lost : Int) + 1)) := blk_cell k5 1
  have s2 : W7.cell? ⟨W.heap.size + 1, 2, none⟩ = some (.slice (some ⟨g6, 1, none⟩) n (c6 - 1)) := blk_cell k5 2
  go_wp2_with fail
  refine bodyPost_ret (by simp [results, Try.results22, go_sem, s0, s1, s2]; try rfl) rfl ?_
  have he : (Q ++ [x]).length = n + 1 := by rw [List.length_append, List.length_singleton, Hn.out]
  have hd := Kd.C_drop (m := 1) (c := c6) hm3 (by omega) (by omega)
  rw [if_neg (by omega), List.length_drop, he] at hd
  exact ⟨_, _, rfl, fun ad h => by cases h; exact fresh_of (ad := ⟨g6, 0, none⟩) hR6 hB0.size, by omega, hd, hB7⟩

set_option maxRecDepth 100000 in
set_option maxHeartbeats 1000000 in
theorem take_none (most lost : Nat) (A : Option Addr) (c : Nat) (W : World) :
    Calls Try.prog 21 #[.agg #[.int .i64 (most : Int), .int .i64 (lost : Int), .slice A 0 c]] W fun e w' =>
      e = .returned (.tuple #[.agg #[.int .i64 (most : Int), .int .i64 (lost : Int), .slice A 0 c], .int .i64 0, .bool false]) ∧ Below W.heap.size W w' := by
  go_enter Try.func21, Try.ntmps21
  go_wp2_with fail
  have x1 := blk_new (W.alloc (.cells #[.int .i64 (most : Int), .int .i64 (lost : Int), .slice A 0 c] 37)) (.cells #[.int .i64 (most : Int), .int .i64 (lost : Int), .slice A 0 c] 37)
  rw [World.size_alloc] at x1
  have hB : Below W.heap.size W ((W.alloc (.cells #[.int .i64 (most : Int), .int .i64 (lost : Int), .slice A 0 c] 37)).alloc (.cells #[.int .i64 (most : Int), .int .i64 (lost : Int), .slice A 0 c] 37)) := below_alloc (below_alloc (Below.refl _ _) _) _
  obtain ⟨W7, hW7⟩ : ∃ W7, W7 = ((W.alloc (.cells #[.int .i64 (most : Int), .int .i64 (lost : Int), .slice A 0 c] 37)).alloc (.cells #[.int .i64 (most : Int), .int .i64 (lost : Int), .slice A 0 c] 37)) := ⟨_, rfl⟩
  rw [← hW7] at x1 hB ⊢
  clear hW7
  have s0 : W7.cell? ⟨W.heap.size + 1, 0, none⟩ = some (.int .i64 (most : Int)) := blk_cell x1 0
  have s1 : W7.cell? ⟨W.heap.size + 1, 1, none⟩ = some (.int .i64 (lost : Int)) := blk_cell x1 1
  have s2 : W7.cell? ⟨W.heap.size + 1, 2, none⟩ = some (.slice A 0 c) := blk_cell x1 2
  refine bodyPost_ret (by simp [results, Try.results21, go_sem, s0, s1, s2]; try rfl) rfl ?_
  exact ⟨rfl, hB⟩

/-- What is held in the region that draws. -/
def Hd (W : World) (most lost : Nat) (A : Option Addr) (n c : Nat) (Q : List Int) (wx : World) : Prop :=
  wx.heap[W.heap.size]? = some (.cells #[.int .i64 (most : Int), .int .i64 (lost : Int), .slice A n c] 37 (0, 0)) ∧ (∃ u0 u1 u2, wx.heap[W.heap.size + 1]? = some (.cells #[u0, u1, u2] 37 (0, 0))) ∧ Kd.C (Kd.int .i64) wx A n Q ∧ Below W.heap.size W wx ∧ Kd.C (Kd.int .i64) W A n Q
theorem drop_one {wx : World} {ad : Addr} {n c : Nat} {q : Int} {Q : List Int} (hn : Q.length = n) (hc : n + 1 ≤ c) (h : Kd.C (Kd.int .i64) wx (some ad) (n + 1) (q :: Q)) : Kd.C (Kd.int .i64) wx (if c = 1 then some ad else some ⟨ad.block, ad.off + 1, none⟩) n Q := by
  subst hn
  have h1 := Kd.C_drop (m := 1) (c := c) (xs := q :: Q) h (by simp) hc
  simpa [Addr.add, Kd.int, Kd.scalar] using h1
def Hc (W : World) (most lost : Nat) (ad : Addr) (n c : Nat) (q : Int) (Q : List Int) (wx : World) : Prop :=
  Hd W most lost (some ad) (n + 1) c (q :: Q) wx ∧ wx.cell? ⟨W.heap.size, 0, none⟩ = some (.int .i64 (most : Int)) ∧ wx.cell? ⟨W.heap.size, 1, none⟩ = some (.int .i64 (lost : Int)) ∧ wx.cell? ⟨W.heap.size, 2, none⟩ = some (.slice (some ad) (n + 1) c) ∧ wx.cell? ad = some (.int .i64 q)
theorem Hd.full {W : World} {most lost : Nat} {ad : Addr} {n c : Nat} {q : Int} {Q : List Int} {wx : World} (h : Hd W most lost (some ad) (n + 1) c (q :: Q) wx) : Hc W most lost ad n c q Q wx := by
  refine ⟨h, blk_cell h.1 0, blk_cell h.1 1, blk_cell h.1 2, ?_⟩
  obtain ⟨ad', e, h2⟩ := h.2.2.1.2.2 (by omega)
  cases e
  obtain ⟨cs, h3, h4, h5⟩ := h2 0 q rfl
  have h6 := h5 0 (.int .i64 q) (by rw [show cs = [.int .i64 q] from h4]; rfl)
  simpa [Addr.add] using h6
theorem Hd.stored {W : World} {most lost : Nat} {A : Option Addr} {n c : Nat} {Q : List Int} {wx : World} (h : Hd W most lost A n c Q wx) (m l : Nat) (A5 : Option Addr) (n5 c5 : Nat) :
    Hd W most lost A n c Q (((wx.setCell ⟨W.heap.size + 1, 0, none⟩ (.int .i64 (m : Int))).setCell ⟨W.heap.size + 1, 1, none⟩ (.int .i64 (l : Int))).setCell ⟨W.heap.size + 1, 2, none⟩ (.slice A5 n5 c5)) := by
  obtain ⟨h1, ⟨u0, u1, u2, h2⟩, h3, h4, h5⟩ := h
  have hB := ((h4.setCell (p := ⟨W.heap.size + 1, 0, none⟩) (by simp) (.int .i64 (m : Int))).setCell (p := ⟨W.heap.size + 1, 1, none⟩) (by simp) (.int .i64 (l : Int))).setCell (p := ⟨W.heap.size + 1, 2, none⟩) (by simp) (.slice A5 n5 c5)
  exact ⟨blk_far (blk_far (blk_far h1 (p := ⟨W.heap.size + 1, 0, none⟩) (by simp) _) (p := ⟨W.heap.size + 1, 1, none⟩) (by simp) _) (p := ⟨W.heap.size + 1, 2, none⟩) (by simp) _, ⟨_, _, _, blk_set (blk_set (blk_set h2 0 _) 1 _) 2 _⟩, Kd.C_below h5 hB, hB, h5⟩
theorem Hd.step {W : World} {most lost : Nat} {A : Option Addr} {n c : Nat} {Q : List Int} {wx w2 : World} (h : Hd W most lost A n c Q wx) (hb : Below wx.heap.size wx w2) : Hd W most lost A n c Q w2 :=
  ⟨blk_below h.1 hb, by obtain ⟨u0, u1, u2, hu⟩ := h.2.1; exact ⟨u0, u1, u2, blk_below hu hb⟩, Kd.C_below h.2.2.1 hb, bthen h.2.2.2.1 hb, h.2.2.2.2⟩

set_option maxRecDepth 100000 in
set_option maxHeartbeats 2000000 in
theorem take_one (most lost : Nat) (ad : Addr) (c : Nat) (q : Int) (Q : List Int) (n : Nat) (hn : Q.length = n) (h64 : n ≤ 64) (hc : n + 1 ≤ c) (W : World) (hC : Kd.C (Kd.int .i64) W (some ad) (n + 1) (q :: Q)) :
    Calls Try.prog 21 #[.agg #[.int .i64 (most : Int), .int .i64 (lost : Int), .slice (some ad) (n + 1) c]] W fun e w' =>
      ∃ A' c', e = .returned (.tuple #[.agg #[.int .i64 (most : Int), .int .i64 (lost : Int), .slice A' n c'], .int .i64 q, .bool true]) ∧ (∀ ad, A' = some ad → W.heap.size ≤ ad.block) ∧ n ≤ c' ∧ Kd.C (Kd.int .i64) w' A' n Q ∧ Below W.heap.size W w' := by
  have Hn := Lib.hid hn
  clear hn
  have hB0 : Below W.heap.size W ((W.alloc (.cells #[.int .i64 (most : Int), .int .i64 (lost : Int), .slice (some ad) (n + 1) c] 37)).alloc (.cells #[.int .i64 0, .int .i64 0, .slice none 0 0] 37)) := below_alloc (below_alloc (Below.refl _ _) _) _
  have hC0 := Kd.C_below hC hB0
  have x0 : ((W.alloc (.cells #[.int .i64 (most : Int), .int .i64 (lost : Int), .slice (some ad) (n + 1) c] 37)).alloc (.cells #[.int .i64 0, .int .i64 0, .slice none 0 0] 37)).heap[W.heap.size]? = some (.cells #[.int .i64 (most : Int), .int .i64 (lost : Int), .slice (some ad) (n + 1) c] 37 (0, 0)) := blk_alloc (blk_new _ _) _
  have x1 : ((W.alloc (.cells #[.int .i64 (most : Int), .int .i64 (lost : Int), .slice (some ad) (n + 1) c] 37)).alloc (.cells #[.int .i64 0, .int .i64 0, .slice none 0 0] 37)).heap[W.heap.size + 1]? = some (.cells #[.int .i64 0, .int .i64 0, .slice none 0 0] 37 (0, 0)) := by
    have := blk_new (W.alloc (.cells #[.int .i64 (most : Int), .int .i64 (lost : Int), .slice (some ad) (n + 1) c] 37)) (.cells #[.int .i64 0, .int .i64 0, .slice none 0 0] 37)
    rwa [World.size_alloc] at this
  have hinfo := info_int
  have z1 : (((n : Int) + 1) == 0) = false := by simp; omega
  have z2 : ¬ ((n : Int) + 1 = 0) := by omega
  have z3 : (1 : Int) ≤ (n : Int) + 1 := by omega
  have hH : Hd W most lost (some ad) (n + 1) c (q :: Q) ((W.alloc (.cells #[.int .i64 (most : Int), .int .i64 (lost : Int), .slice (some ad) (n + 1) c] 37)).alloc (.cells #[.int .i64 0, .int .i64 0, .slice none 0 0] 37)) := ⟨x0, ⟨_, _, _, x1⟩, hC0, hB0, hC⟩
  go_enter Try.func21, Try.ntmps21
  go_wp2_with fail
  clear hB0 hC0 x0 x1
  obtain ⟨W1, hW1⟩ : ∃ W1, W1 = ((W.alloc (.cells #[.int .i64 (most : Int), .int .i64 (lost : Int), .slice (some ad) (n + 1) c] 37)).alloc (.cells #[.int .i64 0, .int .i64 0, .slice none 0 0] 37)) := ⟨_, rfl⟩
  rw [← hW1] at hH ⊢
  clear hW1
  refine start_ (n := 17) (S := fun wx => Hc W most lost ad n c q Q wx) (ds := []) #[false, false, false, false, false, false, false, false, false, false, false, false, false, false, false, false, false] (by kernel_rfl) rfl rfl ((hH.step (below_drew (Below.refl _ _))).full) (fun hHeld => ?_)
  refine pure_ (i := 0) (N := some 10) (v := ?_) (a' := ?_) #[true, false, false, false, false, false, false, false, false, false, false, false, false, false, false, false, false] rfl rfl (by kernel_rfl) (fun _ _ _ h => h) (Or.inl ⟨by rfl, ?_⟩) ?_ ?_
  rotate_left
  · intro w'
    go_simp
    try with_reducible rfl
  rotate_left
  · simp only [Act.put, List.setIfInBounds_toArray, List.set_cons_zero, List.set_cons_succ, i64_w, i32_w]
    rfl
  refine take_ (i := 1) (N := some 11) (v := ?_) (a' := ?_) #[true, true, false, false, false, false, false, false, false, false, false, false, false, false, false, false, false] rfl rfl (by kernel_rfl) (fun _ _ _ h => h) (Or.inl ⟨by rfl, ?_⟩) hHeld ?_ ?_
  rotate_left
  · rintro w' ⟨_, s0, s1, s2, s3⟩
    go_simp
    with_reducible rfl
  rotate_left
  · simp only [Act.put, List.setIfInBounds_toArray, List.set_cons_zero, List.set_cons_succ, i64_w, i32_w]
    rfl
  refine pure_ (i := 2) (N := some 12) (v := ?_) (a' := ?_) #[true, true, true, false, false, false, false, false, false, false, false, false, false, false, false, false, false] rfl rfl (by kernel_rfl) (fun _ _ _ h => h) (Or.inl ⟨by rfl, ?_⟩) ?_ ?_
  rotate_left
  · intro w'
    go_simp
    try with_reducible rfl
  rotate_left
  · simp only [Act.put, List.setIfInBounds_toArray, List.set_cons_zero, List.set_cons_succ, i64_w, i32_w]
    rfl
  refine take_ (i := 3) (N := some 13) (v := ?_) (a' := ?_) #[true, true, true, true, false, false, false, false, false, false, false, false, false, false, false, false, false] rfl rfl (by kernel_rfl) (fun _ _ _ h => h) (Or.inl ⟨by rfl, ?_⟩) hHeld ?_ ?_
  rotate_left
  · rintro w' ⟨_, s0, s1, s2, s3⟩
    go_simp
    with_reducible rfl
  rotate_left
  · simp only [Act.put, List.setIfInBounds_toArray, List.set_cons_zero, List.set_cons_succ, i64_w, i32_w]
    rfl
  refine pure_ (i := 5) (N := some 15) (v := ?_) (a' := ?_) #[true, true, true, true, false, true, false, false, false, false, false, false, false, false, false, false, false] rfl rfl (by kernel_rfl) (fun _ _ _ h => h) (Or.inl ⟨by rfl, ?_⟩) ?_ ?_
  rotate_left
  · intro w'
    go_simp
    try with_reducible rfl
  rotate_left
  · simp only [Act.put, List.setIfInBounds_toArray, List.set_cons_zero, List.set_cons_succ, i64_w, i32_w]
    rfl
  refine take_ (i := 6) (N := some 16) (v := ?_) (a' := ?_) #[true, true, true, true, false, true, true, false, false, false, false, false, false, false, false, false, false] rfl rfl (by kernel_rfl) (fun _ _ _ h => h) (Or.inl ⟨by rfl, ?_⟩) hHeld ?_ ?_
  rotate_left
  · rintro w' ⟨_, s0, s1, s2, s3⟩
    go_simp
    with_reducible rfl
  rotate_left
  · simp only [Act.put, List.setIfInBounds_toArray, List.set_cons_zero, List.set_cons_succ, i64_w, i32_w]
    rfl
  refine pure_ (i := 7) (N := some 17) (v := ?_) (a' := ?_) #[true, true, true, true, false, true, true, true, false, false, false, false, false, false, false, false, false] rfl rfl (by kernel_rfl) (fun _ _ _ h => h) (Or.inl ⟨by rfl, ?_⟩) ?_ ?_
  rotate_left
  · intro w'
    go_simp
    try with_reducible rfl
  rotate_left
  · simp only [Act.put, List.setIfInBounds_toArray, List.set_cons_zero, List.set_cons_succ, i64_w, i32_w]
    rfl
  refine pure_ (i := 10) (N := some 20) (v := ?_) (a' := ?_) #[true, true, true, true, false, true, true, true, false, false, true, false, false, false, false, false, false] rfl rfl (by kernel_rfl) (fun _ _ _ h => h) (Or.inl ⟨by rfl, ?_⟩) ?_ ?_
  rotate_left
  · intro w'
    go_simp
    try with_reducible rfl
  rotate_left
  · simp only [Act.put, List.setIfInBounds_toArray, List.set_cons_zero, List.set_cons_succ, i64_w, i32_w]
    rfl
  refine take_ (i := 11) (N := some 21) (v := ?_) (a' := ?_) #[true, true, true, true, false, true, true, true, false, false, true, true, false, false, false, false, false] rfl rfl (by kernel_rfl) (fun _ _ _ h => h) (Or.inl ⟨by rfl, ?_⟩) hHeld ?_ ?_
  rotate_left
  · rintro w' ⟨_, s0, s1, s2, s3⟩
    go_simp
    with_reducible rfl
  rotate_left
  · simp only [Act.put, List.setIfInBounds_toArray, List.set_cons_zero, List.set_cons_succ, i64_w, i32_w]
    rfl
  refine pure_ (i := 12) (N := some 22) (v := ?_) (a' := ?_) #[true, true, true, true, false, true, true, true, false, false, true, true, true, false, false, false, false] rfl rfl (by kernel_rfl) (fun _ _ _ h => h) (Or.inl ⟨by rfl, ?_⟩) ?_ ?_
  rotate_left
  · intro w'
    go_simp
    try with_reducible rfl
  rotate_left
  · simp only [Act.put, List.setIfInBounds_toArray, List.set_cons_zero, List.set_cons_succ, i64_w, i32_w]
    rfl
  refine take_ (i := 13) (N := some 23) (v := ?_) (a' := ?_) #[true, true, true, true, false, true, true, true, false, false, true, true, true, true, false, false, false] rfl rfl (by kernel_rfl) (fun _ _ _ h => h) (Or.inl ⟨by rfl, ?_⟩) hHeld ?_ ?_
  rotate_left
  · rintro w' ⟨_, s0, s1, s2, s3⟩
    go_simp
    with_reducible rfl
  rotate_left
  · simp only [Act.put, List.setIfInBounds_toArray, List.set_cons_zero, List.set_cons_succ, i64_w, i32_w]
    rfl
  refine one_ (i := 4) (N := some 14) #[true, true, true, true, true, true, true, true, false, false, true, true, true, true, false, false, false] rfl rfl (by kernel_rfl) (by decide) (fun K hK => ?_)
  have hZ := hHeld
  refine Kd.R_lit_step (Kd.int .i64) _ 3 (by rfl) (N := 14) rfl (xs := ([] : List Int)) (inner := []) (ok := fun _ => True) (okp := fun _ => True) ?hr (Reps.none _ _) (fun _ hk => hk) trivial (Below.refl _ _) (Nat.le_refl _) (by simp) ?_
  case hr => first | (go_simp; done) | (go_simp; rfl)
  intro v4 w4 hR4 hb4 hg4 hn4
  refine hK.out _ _ ((hHeld.1.step hb4).full) (fun hHeld => ?_)
  clear hK K
  refine norm_ (a' := ?_) ?_ ?_
  rotate_left
  · show Act.put _ (some 14) _ = _
    simp only [Act.put, List.setIfInBounds_toArray, List.set_cons_zero, List.set_cons_succ, i64_w, i32_w]
    rfl
  refine one_ (i := 8) (N := some 18) #[true, true, true, true, true, true, true, true, true, false, true, true, true, true, false, false, false] rfl rfl (by kernel_rfl) (by decide) (fun K hK => ?_)
  have hCd := drop_one Hn.out hc hHeld.1.2.2.1
  refine Kd.R_append_rows_step (Kd.int .i64) _ (by rfl) (.tmp 14) (.tmp 17) 33 3 (.int .i64 0) 8 rfl Try.underlying33 hinfo rfl (by decide) (by decide) v4 [] Q _ _ _ (fun _ => True) (fun _ => False) rfl rfl hR4 hCd (fun x cs h => h) (fun _ h => h.elim) (fun _ _ => trivial) hb4 hb4.size ?aZ ?_
  case aZ => simp; omega
  intro v5 w5 hR5 hb5 hg5 hn5
  obtain ⟨A5, c5, e5⟩ := Kd.R_slice hR5
  rw [List.nil_append, Hn.out] at e5
  subst e5
  rw [List.nil_append] at hR5
  obtain ⟨u0, u1, u2, yz⟩ := hZ.1.2.1
  have y1 := blk_below yz hb5
  have r2 : w5.cell? ⟨W.heap.size + 1, 0, none⟩ = some u0 := blk_cell y1 0
  have r3 : w5.cell? ⟨W.heap.size + 1, 1, none⟩ = some u1 := blk_cell y1 1
  have r4 : w5.cell? ⟨W.heap.size + 1, 2, none⟩ = some u2 := blk_cell y1 2
  have q0 : w5.frozen? ⟨W.heap.size + 1, 0, none⟩ = false := blk_frozen y1 0
  have q1 : w5.frozen? ⟨W.heap.size + 1, 1, none⟩ = false := blk_frozen y1 1
  have q2 : w5.frozen? ⟨W.heap.size + 1, 2, none⟩ = false := blk_frozen y1 2
  refine hK.out _ _ ((hZ.1.step hb5).full) (fun hHeld => ?_)
  clear hK K
  refine norm_ (a' := ?_) ?_ ?_
  rotate_left
  · show Act.put _ (some 18) _ = _
    simp only [Act.put, List.setIfInBounds_toArray, List.set_cons_zero, List.set_cons_succ, i64_w, i32_w]
    rfl
  refine pure_ (i := 9) (N := some 19) (v := ?_) (a' := ?_) #[true, true, true, true, true, true, true, true, true, true, true, true, true, true, false, false, false] rfl rfl (by kernel_rfl) (fun _ _ _ h => h) (Or.inl ⟨by rfl, ?_⟩) ?_ ?_
  rotate_left
  · intro w'
    go_simp
    try with_reducible rfl
  rotate_left
  · simp only [Act.put, List.setIfInBounds_toArray, List.set_cons_zero, List.set_cons_succ, i64_w, i32_w]
    rfl
  refine one_ (i := 14) (N := none) #[true, true, true, true, true, true, true, true, true, true, true, true, true, true, true, false, false] rfl rfl (by kernel_rfl) (by decide) (fun K hK => ?_)
  refine skip_ (w1 := (((w5.setCell ⟨W.heap.size + 1, 0, none⟩ (.int .i64 (most : Int))).setCell ⟨W.heap.size + 1, 1, none⟩ (.int .i64 (lost : Int))).setCell ⟨W.heap.size + 1, 2, none⟩ (.slice A5 n c5))) (by rfl) rfl ?_ ?_
  · first
    | (go_simp; done)
    | (go_simp; rfl)
  refine hK.out _ _ ((Hd.stored hHeld.1 most lost A5 n c5).full) (fun hHeld => ?_)
  clear hK K
  refine norm_ (a' := ?_) ?_ ?_
  rotate_left
  · rfl
  refine pure_ (i := 15) (N := some 3) (v := ?_) (a' := ?_) #[true, true, true, true, true, true, true, true, true, true, true, true, true, true, true, true, false] rfl rfl (by kernel_rfl) (fun _ _ _ h => h) (Or.inl ⟨by rfl, ?_⟩) ?_ ?_
  rotate_left
  · intro w'
    go_simp
    try with_reducible rfl
  rotate_left
  · simp only [Act.put, List.setIfInBounds_toArray, List.set_cons_zero, List.set_cons_succ, i64_w, i32_w]
    rfl
  refine pure_ (i := 16) (N := some 4) (v := ?_) (a' := ?_) #[true, true, true, true, true, true, true, true, true, true, true, true, true, true, true, true, true] rfl rfl (by kernel_rfl) (fun _ _ _ h => h) (Or.inl ⟨by rfl, ?_⟩) ?_ ?_
  rotate_left
  · intro w'
    go_simp
    try with_reducible rfl
  rotate_left
  · simp only [Act.put, List.setIfInBounds_toArray, List.set_cons_zero, List.set_cons_succ, i64_w, i32_w]
    rfl
  refine done_ (by kernel_rfl) ?_
  have hlow := hR5
  have hlow2 := Kd.R_far (ok := fun k => k ≠ W.heap.size + 1) (Kd.R_mono (Kd.R_bound hR5) (fun k hk => by have := hk.2.1; have := blk_lt yz; omega)) (p := ⟨W.heap.size + 1, 0, none⟩) (fun k hk => hk) (.int .i64 (most : Int))
  have hlow3 := Kd.R_far hlow2 (p := ⟨W.heap.size + 1, 1, none⟩) (fun k hk => hk) (.int .i64 (lost : Int))
  have hlow4 := Kd.R_far hlow3 (p := ⟨W.heap.size + 1, 2, none⟩) (fun k hk => hk) (.slice A5 n c5)
  obtain ⟨hm1, hm2, hm3⟩ := Kd.R_reads' hlow4
  have k5 := blk_set (blk_set (blk_set y1 0 (.int .i64 (most : Int))) 1 (.int .i64 (lost : Int))) 2 (.slice A5 n c5)
  have hB7 := hHeld.1.2.2.2.1
  obtain ⟨W7, hW7⟩ : ∃ W7, W7 = ((w5.setCell ⟨W.heap.size + 1, 0, none⟩ (.int .i64 (most : Int))).setCell ⟨W.heap.size + 1, 1, none⟩ (.int .i64 (lost : Int))).setCell ⟨W.heap.size + 1, 2, none⟩ (.slice A5 n c5) := ⟨_, rfl⟩
  rw [← hW7] at hm3 hB7 k5
  try rw [← hW7]
  clear hW7
  have s0 : W7.cell? ⟨W.heap.size + 1, 0, none⟩ = some (.int .i64 (most : Int)) := blk_cell k5 0
  have s1 : W7.cell? ⟨W.heap.size + 1, 1, none⟩ = some (.int .i64 (lost : Int)) := blk_cell k5 1
  have s2 : W7.cell? ⟨W.heap.size + 1, 2, none⟩ = some (.slice A5 n c5) := blk_cell k5 2
  rw [Hn.out] at hm3
  clear hm1
  go_wp2_with fail
  all_goals refine bodyPost_ret (by simp [results, Try.results21, go_sem, s0, s1, s2]; try rfl) rfl ?_
  all_goals exact ⟨_, _, rfl, fun ad h => by cases h; exact fresh_of hlow hZ.1.2.2.2.1.size, hm2, hm3, hB7⟩
end Go.Proofs.Ytcmofedfbjpjlaa.RingRef

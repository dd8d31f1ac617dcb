import Derived.Test.YtcmofedfbjpjlaaCrcCalls
import Derived.Test.YtcmofedfbjpjlaaWNEv
import Derived.Outline
import Derived.IntWalk
import Derived.OpenShut
import Derived.Laws.BitsAllLaws
import Derived.Lib.Hide
import Derived.Deep.RegionHeld3
/- The law CrcOne, walked. -/
set_option linter.unusedVariables false
set_option linter.unusedSimpArgs false
namespace Go.Proofs.Ytcmofedfbjpjlaa.CrcOneWalk
open Go.RowKit Go.Proofs.YtcmofedfbjpjlaaW.PrintWords Go.Proofs.YtcmofedfbjpjlaaW.PrintLast Go.Proofs.Ytcmofedfbjpjlaa.Nats Go.Proofs.Ytcmofedfbjpjlaa.CrcPlain Go.Proofs.Ytcmofedfbjpjlaa.CrcCalls Go.Proofs.Ytcmofedfbjpjlaa.PNamed

/-- A name and its kind: what Named tells, what Sum comes to, that sums of texts unlike in one byte are unlike. -/
structure Kind (s : ByteArray) (W p f : Nat) (t : Bool) (last : Nat) : Prop where
  named : crc_Named.f s = some ((W : Int), (p : Int), (f : Int), t, (last : Int), true)
  sum : ∀ (l : List Nat) (A : Option Addr) (n c : Nat) (w : World), l.length = n → n ≤ c → (∀ x ∈ l, x < 256) → n < 9223372036854775807 → Kd.C (Kd.int .u8) w A n (ints l) →
    Calls Try.prog 39 #[.agg #[.int .i64 (W : Int), .int .u32 (p : Int), .int .u32 (f : Int), .bool t, .int .u32 (last : Int)], .slice A n c] w fun e w' => e = .returned (.tuple #[.int .u32 ((CrcPlain.sum W p f t last l : Nat) : Int), .int .i64 0]) ∧ Below w.heap.size w w'
  one : ∀ (l m : List Nat) (c d : Nat), (∀ x ∈ l, x < 256) → (∀ x ∈ m, x < 256) → c < 256 → d < 256 → CrcPlain.sum W p f t last (l ++ c :: m) = CrcPlain.sum W p f t last (l ++ d :: m) → c = d
def names : List ByteArray := [⟨#[99, 114, 99, 56]⟩, ⟨#[99, 114, 99, 49, 54]⟩, ⟨#[99, 99, 105, 116, 116]⟩, ⟨#[99, 114, 99, 51, 50]⟩]
theorem kind8 : Kind ⟨#[99, 114, 99, 56]⟩ 8 7 0 false 0 :=
  ⟨by decide +kernel, fun l A n c w h1 h2 h3 h4 h5 => sum8 7 0 0 false l (by decide) (by decide) (by decide) h3 (by omega) A n c w h1 h2 h5, fun l m c d h1 h2 h3 h4 h => sum_one (by decide) (by decide) (by decide) (by decide) false l m c d h1 h2 h3 h4 h⟩
theorem kind16 : Kind ⟨#[99, 114, 99, 49, 54]⟩ 16 32773 0 true 0 :=
  ⟨by decide +kernel, fun l A n c w h1 h2 h3 h4 h5 => sum16 32773 0 0 true l (by decide) (by decide) (by decide) h3 (by omega) A n c w h1 h2 h5, fun l m c d h1 h2 h3 h4 h => sum_one (by decide) (by decide) (by decide) (by decide) true l m c d h1 h2 h3 h4 h⟩
theorem kindc : Kind ⟨#[99, 99, 105, 116, 116]⟩ 16 4129 65535 false 0 :=
  ⟨by decide +kernel, fun l A n c w h1 h2 h3 h4 h5 => sum16 4129 65535 0 false l (by decide) (by decide) (by decide) h3 (by omega) A n c w h1 h2 h5, fun l m c d h1 h2 h3 h4 h => sum_one (by decide) (by decide) (by decide) (by decide) false l m c d h1 h2 h3 h4 h⟩
theorem kind32 : Kind ⟨#[99, 114, 99, 51, 50]⟩ 32 79764919 4294967295 true 4294967295 :=
  ⟨by decide +kernel, fun l A n c w h1 h2 h3 h4 h5 => sum32 79764919 4294967295 4294967295 true l (by decide) (by decide) (by decide) h3 (by omega) A n c w h1 h2 h5, fun l m c d h1 h2 h3 h4 h => sum_one (by decide) (by decide) (by decide) (by decide) true l m c d h1 h2 h3 h4 h⟩
theorem four (j : Nat) (h : j < 4) : ∃ s W p f t last, names.getD j ByteArray.empty = s ∧ Kind s W p f t last := by
  have : j = 0 ∨ j = 1 ∨ j = 2 ∨ j = 3 := by omega
  rcases this with rfl | rfl | rfl | rfl
  · exact ⟨_, _, _, _, _, _, rfl, kind8⟩
  · exact ⟨_, _, _, _, _, _, rfl, kind16⟩
  · exact ⟨_, _, _, _, _, _, rfl, kindc⟩
  · exact ⟨_, _, _, _, _, _, rfl, kind32⟩

theorem bthen {w w1 w2 : World} (h : Below w.heap.size w w1) (k : Below w1.heap.size w1 w2) : Below w.heap.size w w2 := h.trans (k.mono h.size)
theorem grown_below {w w1 : World} (h : w.grownBy w1 none) : Below w.heap.size w w1 := ⟨h.os, h.tape, h.output, h.size, fun k hk => h.block k hk (by simp)⟩
/-- One byte of a text changed. -/
theorem xor_set (l : List Nat) (k b : Nat) (hk : k < l.length) : l.set k (l[k] ^^^ b) = l.take k ++ (l[k] ^^^ b) :: l.drop (k + 1) := by
  rw [List.set_eq_take_append_cons_drop, if_pos hk]
theorem split_at (l : List Nat) (k : Nat) (hk : k < l.length) : l = l.take k ++ l[k] :: l.drop (k + 1) := by
  rw [← List.drop_eq_getElem_cons hk, List.take_append_drop]

set_option maxRecDepth 100000 in
set_option maxHeartbeats 1000000 in
theorem long (a0 a2 a3 : Int) (A : Option Addr) (n c : Nat) (h : n = 0 ∨ 300 < n) (W : World) :
    Calls Try.prog 11 #[.int .u8 a0, .slice A n c, .int .u16 a2, .int .u8 a3] W fun e w' => e = .returned (.bool true) ∧ Below W.heap.size W w' := by
  by_cases h2 : 300 < n
  · go_enter Try.func11, Try.ntmps11
    go_wp2_with fail
    refine (awake04 _).mono ?_
    rintro e w1 ⟨rfl, hb⟩
    go_wp2_with fail
    refine (awake04 _).mono ?_
    rintro e w2 ⟨rfl, hb2⟩
    go_wp2
    go_ret
    exact ⟨rfl, hb.trans (hb2.mono hb.size)⟩
  · obtain rfl : n = 0 := by omega
    go_enter Try.func11, Try.ntmps11
    go_wp2_with fail
    refine (awake04 _).mono ?_
    rintro e w1 ⟨rfl, hb⟩
    go_wp2_with fail
    refine (awake04 _).mono ?_
    rintro e w2 ⟨rfl, hb2⟩
    go_wp2
    go_ret
    exact ⟨rfl, hb.trans (hb2.mono hb.size)⟩

set_option maxRecDepth 100000 in
set_option maxHeartbeats 1000000 in
theorem within (v0 v2 v3 : Nat) (h0 : v0 < 256) (h2 : v2 < 65536) (h3 : v3 < 256) (A : Option Addr) (n c : Nat) (l : List Nat) (hn : l.length = n) (hb : ∀ x ∈ l, x < 256) (hc : n ≤ c) (hp : 0 < n) (hm : n ≤ 300) (W : World) (hC : Kd.C (Kd.int .u8) W A n (ints l)) :
    Calls Try.prog 11 #[.int .u8 (v0 : Int), .slice A n c, .int .u16 (v2 : Int), .int .u8 (v3 : Int)] W fun e w' => e = .returned (.bool true) ∧ Below W.heap.size W w' := by
  obtain ⟨s, Wd, p, f, t, last, hs, K⟩ := four (v0 % 4) (by omega)
  have Hs := Lib.hid hs
  clear hs
  have Hn := Lib.hid hn
  clear hn
  have t1 : decide ((300 : Int) < (n : Int)) = false := by simp; omega
  have t1' : decide ((n : Int) > 300) = false := by simp; omega
  have t2 : ((n : Int) == 0) = false := by simp; omega
  have b0 : (0 : Int) ≤ (v0 : Int) % 4 := by omega
  have b1 : (v0 : Int) % 4 < 4 := by omega
  go_enter Try.func11, Try.ntmps11
  go_wp2_with fail
  refine (awake04 _).mono ?_
  rintro e w1 ⟨rfl, hb1⟩
  go_wp2_with (first | ((with_reducible refine gate_dst (N := 30) rfl ?_); refine Kd.R_lit Kd.string W.heap.size 9 ?hg (N := 30) ?hd (w0 := W) (xs := names) (inner := [.string ⟨#[99, 114, 99, 56]⟩, .string ⟨#[99, 114, 99, 49, 54]⟩, .string ⟨#[99, 99, 105, 116, 116]⟩, .string ⟨#[99, 114, 99, 51, 50]⟩]) (ok := fun _ => True) (okp := fun _ => True) ?hr ?hp (fun _ hk => hk) trivial hb1 hb1.size (by simp [names]) ?_; (case hd => rfl); (case hg => rfl); (case hr => first | (go_simp; done) | (go_simp; rfl)); (case hp => exact (Reps.one (show Kd.M Kd.string _ _ _ _ [_] from rfl) (Reps.one (show Kd.M Kd.string _ _ _ _ [_] from rfl) (Reps.one (show Kd.M Kd.string _ _ _ _ [_] from rfl) (Reps.one (show Kd.M Kd.string _ _ _ _ [_] from rfl) (Reps.none _ _)))))); intro v1 w2 hR2 hb2 hg2 hn2; clear hg2 hn2; obtain ⟨Ao, co, eo⟩ := Kd.R_slice hR2; have e4 : names.length = 4 := rfl; rw [e4] at eo; subst eo; clear e4; obtain ⟨ad, rfl, hcl⟩ := Kd.at_string (Kd.R_reads' hR2).2.2 ((v0 : Int) % 4) b0 b1; rw [rdOf, show ((v0 : Int) % 4).toNat = v0 % 4 from by omega, Hs.out] at hcl) | fail)
  refine (crc_Named.calls s _ _ _ _ _ _ _ K.named).mono ?_
  rintro e w3 ⟨rfl, hb3⟩
  clear hcl
  have hb3' := bthen hb2 hb3
  clear hb2 hb3 hR2 hb1
  have hC3 := Kd.C_below hC hb3'
  have hinfo : (Try.prog.info? 5).map (fun i => (i.zero, i.size, i.bytes)) = some (some (.int .u8 0), 1, 1) := by kernel_rfl
  have hk : v2 % n < l.length := by rw [Hn.out]; exact Nat.mod_lt _ hp
  obtain ⟨z, hz⟩ : ∃ z, z = l[v2 % n] := ⟨_, rfl⟩
  have Hz := Lib.hid hz
  clear hz
  have hz256 : z < 256 := by rw [Hz.out]; exact hb _ (List.getElem_mem hk)
  obtain ⟨y, hy⟩ : ∃ y, y = z ^^^ v3 := ⟨_, rfl⟩
  have Hy := Lib.hid hy
  clear hy
  have hy256 : y < 256 := by rw [Hy.out]; exact Nat.xor_lt_two_pow (n := 8) hz256 h3
  have hxor : bits .xor .u8 (z : Int) (v3 : Int) = (y : Int) := by rw [Hy.out]; exact Go.u8_xor_nat z v3 hz256 h3
  have b2 : (0 : Int) ≤ (v2 : Int) % (n : Int) := by omega
  have b3 : (v2 : Int) % (n : Int) < (n : Int) := Int.emod_lt_of_pos _ (by omega)
  have b4 : ((v2 : Int) % (n : Int)).toNat = v2 % n := by omega
  have B4 := Lib.hid b4
  clear b4
  have hlk : ∀ x ∈ l.set (v2 % n) y, x < 256 := fun x hx => by
    rcases List.mem_or_eq_of_mem_set hx with h | h
    · exact hb x h
    · rw [h]; exact hy256
  obtain ⟨q, hq1, hq2⟩ : ∃ q : Bool, (((CrcPlain.sum Wd p f t last l : Nat) : Int) == ((CrcPlain.sum Wd p f t last (l.set (v2 % n) y) : Nat) : Int)) = q ∧ ((v3 : Int) == 0) = q := by
    by_cases e : v3 = 0
    · refine ⟨true, ?_, by simp [e]⟩
      have : y = z := by rw [Hy.out, e, Nat.xor_zero]
      rw [this, Hz.out, List.set_getElem_self]
      simp
    · refine ⟨false, ?_, by simp; omega⟩
      rw [beq_eq_false_iff_ne]
      intro h
      have h' := Int.ofNat_inj.1 h
      rw [List.set_eq_take_append_cons_drop, if_pos hk] at h'
      have h'' := (congrArg (CrcPlain.sum Wd p f t last) (split_at l (v2 % n) hk)).symm.trans h'
      have hc1 := K.one _ _ _ _ (fun x hx => hb x (List.mem_of_mem_take hx)) (fun x hx => hb x (List.mem_of_mem_drop hx)) (by rw [← Hz.out]; exact hz256) hy256 h''
      rw [← Hz.out, Hy.out] at hc1
      have : z ^^^ v3 = z ^^^ 0 := by rw [Nat.xor_zero]; exact hc1.symm
      exact e (xor_cancel_l this)
  have hlen2 : (l.set (v2 % n) y).length = n := by rw [List.length_set]; exact Hn.out
  have HL2 := Lib.hid hlen2
  clear hlen2
  have el : (ints l).length = n := by rw [ints_length]; exact Hn.out
  have EL := Lib.hid el
  clear el
  have e6 : (ints l).set (v2 % n) (y : Int) = ints (l.set (v2 % n) y) := by simp [ints, List.map_set]
  have E6 := Lib.hid e6
  clear e6
  go_wp2_with (first
    | ((with_reducible refine gate_dst (N := 40) rfl ?_); refine Kd.R_lit (Kd.int .u8) _ 5 ?hg (N := 40) ?hd (xs := ([] : List Int)) (inner := []) (ok := fun _ => True) (okp := fun _ => True) ?hr ?hp (fun _ hk => hk) trivial (Below.refl _ _) (Nat.le_refl _) (by simp) ?_; (case hd => rfl); (case hg => rfl); (case hr => first | (go_simp; done) | (go_simp; rfl)); (case hp => exact Reps.none _ _); intro v4 w4 hR4 hb4 hg4 hn4; have hC4 := Kd.C_below (Kd.C_alloc hC3 _) hb4)
    | ((with_reducible refine gate_dst (N := 42) rfl ?_); refine Kd.R_append_row (Value.int .u8) 0 _ rfl (.tmp 40) (.tmp 41) 54 5 (.int .u8 0) 1 rfl Try.underlying54 hinfo rfl (by decide) v4 [] (ints l) _ _ _ (fun _ => True) rfl rfl (fun _ _ => trivial) hR4 hC4 hb4 hb4.size ?aZ ?_; (case aZ => simp; omega); intro v5 w5 hR5 hb5 hg5 hn5; rw [List.nil_append] at hR5; obtain ⟨g, c5, e5, hg1, hg2, cells, hgc⟩ := Kd.R_form hR5 (by rw [EL.out]; exact hp); rw [EL.out] at e5; subst e5; obtain ⟨hcl, hfr⟩ := Kd.R_celln 0 hR5 ((v2 : Int) % (n : Int)) b2 b3; rw [rdOf, B4.out, show (ints l).getD (v2 % n) 0 = (z : Int) from by rw [Hz.out]; simp [ints, List.getD_eq_getElem?_getD, hk]] at hcl; rw [B4.out] at hfr; have hbk := blk_below (blk_new w3 _) hb5)
    | ((with_reducible refine gate_store (t := 5) (p := 53) rfl ?_); refine store_event (t := 5) (p := 53) (v := ?vo) (w1 := w5.setCell ⟨g, v2 % n, none⟩ (.int .u8 (y : Int))) ?hg ?ho ?hn ?hr ?_; (case ho => rfl); (case hg => rfl); (case hn => rfl); (case hr => first | (go_simp; done) | (go_simp; rfl)); intro w6 hw6; have hR6 := Kd.R_putn hR5 ((v2 : Int) % (n : Int)) (y : Int); rw [B4.out, E6.out, ← hw6] at hR6; have hB5 := bthen (below_alloc hb3' _) hb5; have hgw : W.heap.size ≤ g := Nat.le_trans (below_alloc hb3' _).size hg1; have hB6 := hB5.setCell (p := ⟨g, v2 % n, none⟩) hgw (.int .u8 (y : Int)); rw [← hw6] at hB6; have hbk6 : w6.heap[w3.heap.size]? = some (.cells #[.int .i64 (Wd : Int), .int .u32 (p : Int), .int .u32 (f : Int), .bool t, .int .u32 (last : Int)] 65) := (by rw [hw6, Below.heap_setCell w5 ⟨g, v2 % n, none⟩ _ _ (by simp at hg1 ⊢; omega)]; exact hbk); clear hw6 hR5 hB5 hbk hcl hfr hg5 hn5 hb5 hgc hC4 hb4 hg4 hn4 hR4; have hC6 := Kd.C_below hC hB6; have r0 : w6.cell? ⟨w3.heap.size, 0, none⟩ = some (.int .i64 (Wd : Int)) := blk_cell hbk6 0; have r1 : w6.cell? ⟨w3.heap.size, 1, none⟩ = some (.int .u32 (p : Int)) := blk_cell hbk6 1; have r2 : w6.cell? ⟨w3.heap.size, 2, none⟩ = some (.int .u32 (f : Int)) := blk_cell hbk6 2; have r3 : w6.cell? ⟨w3.heap.size, 3, none⟩ = some (.bool t) := blk_cell hbk6 3; have r4 : w6.cell? ⟨w3.heap.size, 4, none⟩ = some (.int .u32 (last : Int)) := blk_cell hbk6 4)
    | fail)
  refine (K.sum l A n c _ Hn.out hc hb (by omega) hC6).mono ?_
  rintro e w7 ⟨rfl, hb7⟩
  have hbk7 := blk_below hbk6 hb7
  have hB7 := bthen hB6 hb7
  have hR7 := Kd.R_below hR6 hb7
  clear hbk6 hB6 hR6 hb7 r0 r1 r2 r3 r4 hC6
  have hc7 := (Kd.R_reads' hR7).2.1
  have hC7 := (Kd.R_reads' hR7).2.2
  rw [ints_length, HL2.out] at hC7
  have r0 : w7.cell? ⟨w3.heap.size, 0, none⟩ = some (.int .i64 (Wd : Int)) := blk_cell hbk7 0
  have r1 : w7.cell? ⟨w3.heap.size, 1, none⟩ = some (.int .u32 (p : Int)) := blk_cell hbk7 1
  have r2 : w7.cell? ⟨w3.heap.size, 2, none⟩ = some (.int .u32 (f : Int)) := blk_cell hbk7 2
  have r3 : w7.cell? ⟨w3.heap.size, 3, none⟩ = some (.bool t) := blk_cell hbk7 3
  have r4 : w7.cell? ⟨w3.heap.size, 4, none⟩ = some (.int .u32 (last : Int)) := blk_cell hbk7 4
  clear hR7
  go_wp2_with fail
  refine (K.sum (l.set (v2 % n) y) _ n c5 _ HL2.out hc7 hlk (by omega) hC7).mono ?_
  rintro e w8 ⟨rfl, hb8⟩
  go_wp2
  go_ret
  exact ⟨by simp, bthen hB7 hb8⟩

theorem walk (a0 a2 a3 : Int) (A : Option Addr) (n c : Nat) (l : List Nat) (W : World) (w0 : (Lit.int .u8 a0).wf = true) (w2 : (Lit.int .u16 a2).wf = true) (w3 : (Lit.int .u8 a3).wf = true)
    (hn : l.length = n) (hb : ∀ x ∈ l, x < 256) (hc : n ≤ c) (hC : Kd.C (Kd.int .u8) W A n (ints l)) :
    Calls Try.prog 11 #[.int .u8 a0, .slice A n c, .int .u16 a2, .int .u8 a3] W fun e w' => e = .returned (.bool true) ∧ Below W.heap.size W w' := by
  by_cases h : n = 0 ∨ 300 < n
  · exact long a0 a2 a3 A n c h W
  · have w0 := bounds_u8 w0
    have w2 := bounds_u16 w2
    have w3 := bounds_u8 w3
    obtain ⟨v0, rfl⟩ := Int.eq_ofNat_of_zero_le w0.1
    obtain ⟨v2, rfl⟩ := Int.eq_ofNat_of_zero_le w2.1
    obtain ⟨v3, rfl⟩ := Int.eq_ofNat_of_zero_le w3.1
    exact within v0 v2 v3 (by omega) (by omega) (by omega) A n c l hn hb hc (by omega) (by omega) W hC
end Go.Proofs.Ytcmofedfbjpjlaa.CrcOneWalk

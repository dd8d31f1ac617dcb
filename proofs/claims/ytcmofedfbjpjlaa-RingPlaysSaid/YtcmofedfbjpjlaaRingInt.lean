import Derived.Test.YtcmofedfbjpjlaaProg
import Derived.WalkKit
import Derived.Test.YtcmofedfbjpjlaaNats
import Derived.Test.YtcmofedfbjpjlaaWKept
import Derived.Test.YtcmofedfbjpjlaaWLast
import Derived.Laws.OwnMore
import Derived.RegionTactic
import Derived.BigRegion
/- A ring's functions, walked: what they hold behind a call. -/
set_option linter.unusedVariables false
set_option linter.unusedSimpArgs false
namespace Go.Proofs.Ytcmofedfbjpjlaa.RingInt
open Go.RowKit Go.Proofs.YtcmofedfbjpjlaaW.PrintWords Go.Proofs.YtcmofedfbjpjlaaW.PrintLast Go.Proofs.Ytcmofedfbjpjlaa.Nats

/-- The ring's block and its row's. -/
structure Rg (W : World) (gb ga most : Nat) (vs : List Int) (f n lost : Nat) : Prop where
  box : W.heap[gb]? = some (.cells #[.slice (some ⟨ga, 0, none⟩) most most, .int .i64 (f : Int), .int .i64 (n : Int), .int .i64 (lost : Int)] 87 (0, 0))
  row : W.heap[ga]? = some (.cells (vs.map (Value.int .i64)).toArray 3 (0, 0))
  len : vs.length = most
  m1 : 1 ≤ most
  m2 : most ≤ 64
  fl : f < most
  nl : n ≤ most
  ll : lost ≤ 1000
/-- What a ring's words may turn: its two blocks alone. -/
structure Turn (gb ga : Nat) (w w' : World) : Prop where
  os : w'.os = w.os
  tape : w'.tape = w.tape
  output : w'.output = w.output
  size : w.heap.size ≤ w'.heap.size
  block : ∀ k, k < w.heap.size → ¬ (k = gb ∨ k = ga) → w'.heap[k]? = w.heap[k]?
section
variable {gb ga : Nat} {w W W2 : World}
theorem Turn.refl (gb ga : Nat) (w : World) : Turn gb ga w w := ⟨rfl, rfl, rfl, Nat.le_refl _, fun _ _ _ => rfl⟩
theorem Turn.trans (h : Turn gb ga w W) (k : Turn gb ga W W2) : Turn gb ga w W2 :=
  ⟨k.os.trans h.os, k.tape.trans h.tape, k.output.trans h.output, Nat.le_trans h.size k.size, fun i hi hn => (k.block i (Nat.lt_of_lt_of_le hi h.size) hn).trans (h.block i hi hn)⟩
theorem Turn.of_below (hb : Below w.heap.size w W) : Turn gb ga w W := ⟨hb.os, hb.tape, hb.output, hb.size, fun i hi _ => hb.block i hi⟩
theorem Turn.below (h : Turn gb ga w W) (hb : Below W.heap.size W W2) : Turn gb ga w W2 := h.trans (Turn.of_below hb)
theorem Turn.drew (h : Turn gb ga w W) : Turn gb ga w W.drew := h.below (below_drew (Below.refl _ _))
theorem Turn.setCell (h : Turn gb ga w W) {p : Addr} (hp : (p.block = gb ∨ p.block = ga) ∨ False) (u : Value) : Turn gb ga w (W.setCell p u) :=
  h.trans ⟨rfl, rfl, rfl, by simp [World.setCell], fun i _ hn => Below.heap_setCell W p u i (fun e => hn (e ▸ hp.resolve_right id))⟩
/-- Both blocks are new since w0. -/
theorem Turn.up {w0 : World} (h : Turn gb ga w W) (hb : Below w0.heap.size w0 w) (h1 : w0.heap.size ≤ gb) (h2 : w0.heap.size ≤ ga) : Below w0.heap.size w0 W :=
  ⟨h.os.trans hb.os, h.tape.trans hb.tape, h.output.trans hb.output, Nat.le_trans hb.size h.size, fun i hi => (h.block i (Nat.lt_of_lt_of_le hi hb.size) (by omega)).trans (hb.block i hi)⟩
end
section
variable {W w2 : World} {gb ga most f n lost : Nat} {vs : List Int}
theorem Rg.step (h : Rg W gb ga most vs f n lost) (hb : Below W.heap.size W w2) : Rg w2 gb ga most vs f n lost :=
  ⟨blk_below h.box hb, blk_below h.row hb, h.len, h.m1, h.m2, h.fl, h.nl, h.ll⟩
theorem Rg.kept (h : Rg W gb ga most vs f n lost) {g1 g2 : Nat} (hb : Turn g1 g2 W w2) (h1 : ¬ (gb = g1 ∨ gb = g2)) (h2 : ¬ (ga = g1 ∨ ga = g2)) : Rg w2 gb ga most vs f n lost :=
  ⟨(hb.block gb (blk_lt h.box) h1).trans h.box, (hb.block ga (blk_lt h.row) h2).trans h.row, h.len, h.m1, h.m2, h.fl, h.nl, h.ll⟩
theorem Rg.ne (h : Rg W gb ga most vs f n lost) : gb ≠ ga := blk_ne h.box h.row (by decide)
theorem Rg.cell (h : Rg W gb ga most vs f n lost) {i : Nat} (hi : i < most) : W.cell? ⟨ga, i, none⟩ = some ((Value.int .i64) (vs.getD i 0)) := by
  have hl := h.len
  rw [blk_cell h.row i]
  simp [List.getD_eq_getElem?_getD, hl, hi]
end
theorem tmod_nat (a b : Nat) : ((a : Int)).tmod (b : Int) = ((a % b : Nat) : Int) := by
  rw [Int.tmod_eq_emod_of_nonneg (by omega)]; simp
theorem lt_mod (a : Nat) {most : Nat} (h : 1 ≤ most) : a % most < most := Nat.mod_lt _ (by omega)

set_option maxRecDepth 100000 in
set_option maxHeartbeats 1000000 in
theorem placeX {W : World} {gb ga most f n lost : Nat} {vs : List Int} (h : Rg W gb ga most vs f n lost) (i : Nat) (hi : i ≤ 64) :
    Calls Try.prog 52 #[.pointer (some ⟨gb, 0, none⟩), .int .i64 (i : Int)] W fun e w' => e = .returned (.int .i64 (((f + i) % most : Nat) : Int)) ∧ w' = W.drew := by
  have c0 : W.cell? ⟨gb, 0, none⟩ = some (.slice (some ⟨ga, 0, none⟩) most most) := blk_cell h.box 0
  have c1 : W.cell? ⟨gb, 1, none⟩ = some (.int .i64 (f : Int)) := blk_cell h.box 1
  have z : ¬ most = 0 := by have := h.m1; omega
  have e1 : wrap64 ((f : Int) + (i : Int)) = ((f + i : Nat) : Int) := by rw [IntWalk.wrap64_in _ (by have := h.m2; have := h.fl; omega)]; simp
  have e2 : wrap64 (((f + i : Nat) : Int).tmod (most : Int)) = (((f + i) % most : Nat) : Int) := by
    rw [tmod_nat]
    have := lt_mod (f + i) h.m1
    have := h.m2
    exact IntWalk.wrap64_in _ (by omega)
  go_enter Try.func52, Try.ntmps52
  go_wp2_with fail
  go_region
  go_wp2_with fail
  go_ret
  exact ⟨by simp, rfl⟩
theorem place {W : World} {gb ga most f n lost : Nat} {vs : List Int} (h : Rg W gb ga most vs f n lost) (i : Nat) (hi : i ≤ 64) :
    Calls Try.prog 52 #[.pointer (some ⟨gb, 0, none⟩), .int .i64 (i : Int)] W fun e w' => e = .returned (.int .i64 (((f + i) % most : Nat) : Int)) ∧ Below W.heap.size W w' :=
  (placeX h i hi).mono fun e w' he => ⟨he.1, he.2 ▸ below_drew (Below.refl _ _)⟩

/-- What a ring's word needs of the world. -/
theorem Rg.cells {W : World} {gb ga most f n lost : Nat} {vs : List Int} (h : Rg W gb ga most vs f n lost) :
    W.cell? ⟨gb, 0, none⟩ = some (.slice (some ⟨ga, 0, none⟩) most most) ∧ W.cell? ⟨gb, 1, none⟩ = some (.int .i64 (f : Int)) ∧ W.cell? ⟨gb, 2, none⟩ = some (.int .i64 (n : Int)) ∧ W.cell? ⟨gb, 3, none⟩ = some (.int .i64 (lost : Int)) ∧
    (∀ i, W.frozen? ⟨gb, i, none⟩ = false) ∧ (∀ i, W.frozen? ⟨ga, i, none⟩ = false) :=
  ⟨blk_cell h.box 0, blk_cell h.box 1, blk_cell h.box 2, blk_cell h.box 3, fun i => blk_frozen h.box i, fun i => blk_frozen h.row i⟩
theorem Rg.setRow {W : World} {gb ga most f n lost : Nat} {vs : List Int} (h : Rg W gb ga most vs f n lost) (i : Nat) (x : Int) : Rg (W.setCell ⟨ga, i, none⟩ ((Value.int .i64) x)) gb ga most (vs.set i x) f n lost := by
  refine ⟨blk_far h.box (p := ⟨ga, i, none⟩) h.ne _, blk_put h.row i _ ?_, by rw [List.length_set]; exact h.len, h.m1, h.m2, h.fl, h.nl, h.ll⟩
  simp [List.map_set]
theorem Rg.setFirst {W : World} {gb ga most f n lost : Nat} {vs : List Int} (h : Rg W gb ga most vs f n lost) (f' : Nat) (hf : f' < most) : Rg (W.setCell ⟨gb, 1, none⟩ (.int .i64 (f' : Int))) gb ga most vs f' n lost :=
  ⟨blk_put h.box 1 _ rfl, blk_far h.row (p := ⟨gb, 1, none⟩) h.ne.symm _, h.len, h.m1, h.m2, hf, h.nl, h.ll⟩
theorem Rg.setN {W : World} {gb ga most f n lost : Nat} {vs : List Int} (h : Rg W gb ga most vs f n lost) (n' : Nat) (hf : n' ≤ most) : Rg (W.setCell ⟨gb, 2, none⟩ (.int .i64 (n' : Int))) gb ga most vs f n' lost :=
  ⟨blk_put h.box 2 _ rfl, blk_far h.row (p := ⟨gb, 2, none⟩) h.ne.symm _, h.len, h.m1, h.m2, h.fl, hf, h.ll⟩
theorem Rg.setLost {W : World} {gb ga most f n lost : Nat} {vs : List Int} (h : Rg W gb ga most vs f n lost) (l' : Nat) (hf : l' ≤ 1000) : Rg (W.setCell ⟨gb, 3, none⟩ (.int .i64 (l' : Int))) gb ga most vs f n l' :=
  ⟨blk_put h.box 3 _ rfl, blk_far h.row (p := ⟨gb, 3, none⟩) h.ne.symm _, h.len, h.m1, h.m2, h.fl, h.nl, hf⟩

theorem placeK {W : World} {gb ga most f n lost : Nat} {vs : List Int} (h : Rg W gb ga most vs f n lost) (i k : Nat) (hi : i ≤ 64) (hk : (f + i) % most = k) :
    Calls Try.prog 52 #[.pointer (some ⟨gb, 0, none⟩), .int .i64 (i : Int)] W fun e w' => e = .returned (.int .i64 (k : Int)) ∧ Below W.heap.size W w' := hk ▸ place h i hi

theorem held {W w0 : World} {gb ga most f n lost : Nat} {vs : List Int} (h : Rg W gb ga most vs f n lost) (hk : Turn gb ga w0 W) :
    Rg W gb ga most vs f n lost ∧ Turn gb ga w0 W ∧ W.cell? ⟨gb, 0, none⟩ = some (.slice (some ⟨ga, 0, none⟩) most most) ∧ W.cell? ⟨gb, 1, none⟩ = some (.int .i64 (f : Int)) ∧ W.cell? ⟨gb, 2, none⟩ = some (.int .i64 (n : Int)) ∧ W.cell? ⟨gb, 3, none⟩ = some (.int .i64 (lost : Int)) :=
  ⟨h, hk, h.cells.1, h.cells.2.1, h.cells.2.2.1, h.cells.2.2.2.1⟩

set_option maxRecDepth 100000 in
set_option maxHeartbeats 1000000 in
theorem put_full {W : World} {gb ga most f lost : Nat} {vs : List Int} (h : Rg W gb ga most vs f most lost) (hl : lost < 1000) (x : Int) :
    Calls Try.prog 19 #[.pointer (some ⟨gb, 0, none⟩), (Value.int .i64) x] W fun e w' => e = .returned (.bool false) ∧ Rg w' gb ga most (vs.set f x) ((f + 1) % most) most (lost + 1) ∧ Turn gb ga W w' := by
  obtain ⟨c0, c1, c2, c3, hfb, hfa⟩ := h.cells
  have cr := h.cell h.fl
  have hfr := hfa f
  have hfm := h.fl
  have b1 : (f : Int) < (most : Int) := by omega
  go_enter Try.func19, Try.ntmps19
  go_wp2_with fail
  go_region
  go_wp2_with fail
  go_region
  have h2 := (h.setRow f x).step (below_drew (below_drew (Below.refl _ _)))
  have k2 : Turn gb ga W (W.setCell ⟨ga, f, none⟩ ((Value.int .i64) x)).drew.drew := Turn.drew (Turn.drew (Turn.setCell (Turn.refl gb ga W) (p := ⟨ga, f, none⟩) (Or.inl (Or.inr rfl)) _))
  clear c0 c1 c2 c3 cr hfr hfa hfb
  obtain ⟨W2, hW2⟩ : ∃ W2, W2 = (W.setCell ⟨ga, f, none⟩ ((Value.int .i64) x)).drew.drew := ⟨_, rfl⟩
  rw [← hW2] at h2 k2 ⊢
  clear hW2
  go_wp2_with fail
  refine (place h2 1 (by omega)).mono ?_
  rintro e w3 ⟨rfl, hb3⟩
  have h3 := h2.step hb3
  have k3 := k2.below hb3
  have h4 := h3.setFirst ((f + 1) % most) (lt_mod _ h.m1)
  have k4 : Turn gb ga W (w3.setCell ⟨gb, 1, none⟩ (.int .i64 (((f + 1) % most : Nat) : Int))) := k3.setCell (p := ⟨gb, 1, none⟩) (Or.inl (Or.inl rfl)) _
  obtain ⟨c0, c1, c2, c3, hfb, hfa⟩ := h3.cells
  obtain ⟨d0, d1, d2, d3, gfb, gfa⟩ := h4.cells
  have f1 := hfb 1
  have f3 := gfb 3
  have e1 : wrap64 ((lost : Int) + 1) = ((lost + 1 : Nat) : Int) := by rw [IntWalk.wrap64_in _ (by omega)]; simp
  go_wp2_with fail
  go_ret
  have h5 := h4.setLost (lost + 1) (by omega)
  have k5 := k4.setCell (p := ⟨gb, 3, none⟩) (Or.inl (Or.inl rfl)) (.int .i64 ((lost + 1 : Nat) : Int))
  push_cast at h5 k5
  exact ⟨rfl, h5, k5⟩

set_option maxRecDepth 100000 in
set_option maxHeartbeats 1000000 in
theorem put_room {W : World} {gb ga most f n lost : Nat} {vs : List Int} (h : Rg W gb ga most vs f n lost) (hn : n < most) (x : Int) :
    Calls Try.prog 19 #[.pointer (some ⟨gb, 0, none⟩), (Value.int .i64) x] W fun e w' => e = .returned (.bool true) ∧ Rg w' gb ga most (vs.set ((f + n) % most) x) f (n + 1) lost ∧ Turn gb ga W w' := by
  obtain ⟨c0, c1, c2, c3, hfb, hfa⟩ := h.cells
  have b1 : ((n : Int) == (most : Int)) = false := by simp; omega
  have b2 : ¬ n = most := by omega
  have hm1 := h.m1
  go_enter Try.func19, Try.ntmps19
  go_wp2_with fail
  go_region
  go_wp2_with fail
  clear c0 c1 c2 c3 hfb hfa
  have h1 := h.step (below_drew (Below.refl _ _))
  obtain ⟨W1, hW1⟩ : ∃ W1, W1 = W.drew := ⟨_, rfl⟩
  rw [← hW1] at h1 ⊢
  have k1 : Turn gb ga W W1 := hW1 ▸ Turn.drew (Turn.refl gb ga W)
  clear hW1
  obtain ⟨k, hk⟩ : ∃ k, (f + n) % most = k := ⟨_, rfl⟩
  have hlt : k < most := hk ▸ lt_mod (f + n) hm1
  refine start_ (n := 13) (S := fun wx => Rg wx gb ga most vs f n lost ∧ Turn gb ga W wx ∧ wx.cell? ⟨gb, 0, none⟩ = some (.slice (some ⟨ga, 0, none⟩) most most) ∧ wx.cell? ⟨gb, 1, none⟩ = some (.int .i64 (f : Int)) ∧ wx.cell? ⟨gb, 2, none⟩ = some (.int .i64 (n : Int)) ∧ wx.cell? ⟨gb, 3, none⟩ = some (.int .i64 (lost : Int))) (ds := [12]) #[false, false, false, false, false, false, false, false, false, false, false, false, false] (by kernel_rfl) rfl rfl (held (h1.step (below_drew (Below.refl _ _))) k1.drew) (fun hHeld => ?_)
  refine pure_ (i := 0) (N := some 37) (v := ?_) (a' := ?_) #[true, false, false, false, false, false, false, false, false, false, false, false, false] rfl rfl (by kernel_rfl) (fun _ _ _ h => h) (Or.inl ⟨by rfl, ?_⟩) ?_ ?_
  rotate_left
  · intro w'
    go_simp
    try with_reducible rfl
  rotate_left
  · simp only [Act.put, List.setIfInBounds_toArray, List.set_cons_zero, List.set_cons_succ, i64_w, i32_w]
    rfl
  refine pure_ (i := 1) (N := some 38) (v := ?_) (a' := ?_) #[true, true, false, false, false, false, false, false, false, false, false, false, false] rfl rfl (by kernel_rfl) (fun _ _ _ h => h) (Or.inl ⟨by rfl, ?_⟩) ?_ ?_
  rotate_left
  · intro w'
    go_simp
    try with_reducible rfl
  rotate_left
  · simp only [Act.put, List.setIfInBounds_toArray, List.set_cons_zero, List.set_cons_succ, i64_w, i32_w]
    rfl
  refine pure_ (i := 2) (N := some 39) (v := ?_) (a' := ?_) #[true, true, true, false, false, false, false, false, false, false, false, false, false] rfl rfl (by kernel_rfl) (fun _ _ _ h => h) (Or.inl ⟨by rfl, ?_⟩) ?_ ?_
  rotate_left
  · intro w'
    go_simp
    try with_reducible rfl
  rotate_left
  · simp only [Act.put, List.setIfInBounds_toArray, List.set_cons_zero, List.set_cons_succ, i64_w, i32_w]
    rfl
  refine take_ (i := 3) (N := some 40) (v := ?_) (a' := ?_) #[true, true, true, true, false, false, false, false, false, false, false, false, false] rfl rfl (by kernel_rfl) (fun _ _ _ h => h) (Or.inl ⟨by rfl, ?_⟩) hHeld ?_ ?_
  rotate_left
  · rintro w' ⟨_, _, s0, s1, s2, s3⟩
    go_simp
    with_reducible rfl
  rotate_left
  · simp only [Act.put, List.setIfInBounds_toArray, List.set_cons_zero, List.set_cons_succ, i64_w, i32_w]
    rfl
  refine pure_ (i := 4) (N := some 41) (v := ?_) (a' := ?_) #[true, true, true, true, true, false, false, false, false, false, false, false, false] rfl rfl (by kernel_rfl) (fun _ _ _ h => h) (Or.inl ⟨by rfl, ?_⟩) ?_ ?_
  rotate_left
  · intro w'
    go_simp
    try with_reducible rfl
  rotate_left
  · simp only [Act.put, List.setIfInBounds_toArray, List.set_cons_zero, List.set_cons_succ, i64_w, i32_w]
    rfl
  refine pure_ (i := 5) (N := some 42) (v := ?_) (a' := ?_) #[true, true, true, true, true, true, false, false, false, false, false, false, false] rfl rfl (by kernel_rfl) (fun _ _ _ h => h) (Or.inl ⟨by rfl, ?_⟩) ?_ ?_
  rotate_left
  · intro w'
    go_simp
    try with_reducible rfl
  rotate_left
  · simp only [Act.put, List.setIfInBounds_toArray, List.set_cons_zero, List.set_cons_succ, i64_w, i32_w]
    rfl
  refine pure_ (i := 6) (N := some 43) (v := ?_) (a' := ?_) #[true, true, true, true, true, true, true, false, false, false, false, false, false] rfl rfl (by kernel_rfl) (fun _ _ _ h => h) (Or.inl ⟨by rfl, ?_⟩) ?_ ?_
  rotate_left
  · intro w'
    go_simp
    try with_reducible rfl
  rotate_left
  · simp only [Act.put, List.setIfInBounds_toArray, List.set_cons_zero, List.set_cons_succ, i64_w, i32_w]
    rfl
  refine pure_ (i := 7) (N := some 44) (v := ?_) (a' := ?_) #[true, true, true, true, true, true, true, true, false, false, false, false, false] rfl rfl (by kernel_rfl) (fun _ _ _ h => h) (Or.inl ⟨by rfl, ?_⟩) ?_ ?_
  rotate_left
  · intro w'
    go_simp
    try with_reducible rfl
  rotate_left
  · simp only [Act.put, List.setIfInBounds_toArray, List.set_cons_zero, List.set_cons_succ, i64_w, i32_w]
    rfl
  refine take_ (i := 8) (N := some 45) (v := ?_) (a' := ?_) #[true, true, true, true, true, true, true, true, true, false, false, false, false] rfl rfl (by kernel_rfl) (fun _ _ _ h => h) (Or.inl ⟨by rfl, ?_⟩) hHeld ?_ ?_
  rotate_left
  · rintro w' ⟨_, _, s0, s1, s2, s3⟩
    go_simp
    with_reducible rfl
  rotate_left
  · simp only [Act.put, List.setIfInBounds_toArray, List.set_cons_zero, List.set_cons_succ, i64_w, i32_w]
    rfl
  refine pure_ (i := 10) (N := some 47) (v := ?_) (a' := ?_) #[true, true, true, true, true, true, true, true, true, false, true, false, false] rfl rfl (by kernel_rfl) (fun _ _ _ h => h) (Or.inl ⟨by rfl, ?_⟩) ?_ ?_
  rotate_left
  · intro w'
    go_simp
    try with_reducible rfl
  rotate_left
  · simp only [Act.put, List.setIfInBounds_toArray, List.set_cons_zero, List.set_cons_succ, i64_w, i32_w]
    rfl
  refine one_ (i := 9) (N := some 46) #[true, true, true, true, true, true, true, true, true, true, true, false, false] rfl rfl (by kernel_rfl) (by decide) (fun K hK => ?_)
  refine goes_ Try.func52 (by kernel_rfl) rfl #[.pointer (some ⟨gb, 0, none⟩), .int .i64 (n : Int)] (by rfl) rfl rfl (by (try simp only [List.map_toArray, List.map_cons, List.map_nil]); first | done | rfl) ?_
  refine (placeK hHeld.1 n k (by have := h.m2; omega) hk).mono ?_
  rintro e w3 ⟨rfl, hb3⟩
  refine ⟨_, rfl, ?_⟩
  have hcr := (hHeld.1.step hb3).cell hlt
  have hfr := (hHeld.1.step hb3).cells.2.2.2.2.2 k
  refine hK.out _ _ (held (hHeld.1.step hb3) (hHeld.2.1.below hb3)) (fun hHeld => ?_)
  clear hK K
  refine norm_ (a' := ?_) ?_ ?_
  rotate_left
  · show Act.put _ (some 46) _ = _
    simp only [Act.put, List.setIfInBounds_toArray, List.set_cons_zero, List.set_cons_succ, i64_w, i32_w]
    rfl
  refine pure_ (i := 11) (N := some 48) (v := ?_) (a' := ?_) #[true, true, true, true, true, true, true, true, true, true, true, true, false] rfl rfl (by kernel_rfl) (fun _ _ _ h => h) (Or.inl ⟨by rfl, ?_⟩) ?_ ?_
  rotate_left
  · intro w'
    go_simp
    try with_reducible rfl
  rotate_left
  · simp only [Act.put, List.setIfInBounds_toArray, List.set_cons_zero, List.set_cons_succ, i64_w, i32_w]
    rfl
  refine last_ (i := 12) (N := none) #[true, true, true, true, true, true, true, true, true, true, true, true, true] rfl rfl (by kernel_rfl) (by decide) (fun K hK => ?_)
  refine skip_ (w1 := (w3.setCell ⟨ga, k, none⟩ ((Value.int .i64) x))) (by rfl) rfl ?_ ?_
  · first
    | (go_simp; done)
    | (go_simp; rfl)
  refine hK.out _ _ ?_
  clear hK K
  refine norm_ (a' := ?_) ?_ ?_
  rotate_left
  · rfl
  refine done_ (by kernel_rfl) ?_
  have h4 := hHeld.1.setRow k x
  have k4 : Turn gb ga W (w3.setCell ⟨ga, k, none⟩ ((Value.int .i64) x)) := hHeld.2.1.setCell (p := ⟨ga, k, none⟩) (Or.inl (Or.inr rfl)) _
  obtain ⟨d0, d1, d2, d3, gfb, gfa⟩ := h4.cells
  have f2 := gfb 2
  have e1 : wrap64 ((n : Int) + 1) = ((n + 1 : Nat) : Int) := by rw [IntWalk.wrap64_in _ (by have := h.m2; omega)]; simp
  go_wp2_with fail
  go_ret
  have h5 := h4.setN (n + 1) (by omega)
  have k5 := k4.setCell (p := ⟨gb, 2, none⟩) (Or.inl (Or.inl rfl)) (.int .i64 ((n + 1 : Nat) : Int))
  rw [hk]
  push_cast at h5 k5
  exact ⟨rfl, h5, k5⟩

set_option maxRecDepth 100000 in
set_option maxHeartbeats 1000000 in
theorem take_none {W : World} {gb ga most f lost : Nat} {vs : List Int} (h : Rg W gb ga most vs f 0 lost) :
    Calls Try.prog 18 #[.pointer (some ⟨gb, 0, none⟩)] W fun e w' => e = .returned (.tuple #[(Value.int .i64 0), .bool false]) ∧ Below W.heap.size W w' := by
  obtain ⟨c0, c1, c2, c3, hfb, hfa⟩ := h.cells
  go_enter Try.func18, Try.ntmps18
  go_wp2_with fail
  go_ret2
  exact ⟨rfl, Below.refl _ _⟩

set_option maxRecDepth 100000 in
set_option maxHeartbeats 1000000 in
theorem take_one {W : World} {gb ga most f n lost : Nat} {vs : List Int} (h : Rg W gb ga most vs f (n + 1) lost) (x : Int) (hx : vs.getD f 0 = x) :
    Calls Try.prog 18 #[.pointer (some ⟨gb, 0, none⟩)] W fun e w' => e = .returned (.tuple #[(Value.int .i64) x, .bool true]) ∧ Rg w' gb ga most (vs.set f 0) ((f + 1) % most) n lost ∧ Turn gb ga W w' := by
  obtain ⟨c0, c1, c2, c3, hfb, hfa⟩ := h.cells
  have cr := h.cell h.fl
  rw [hx] at cr
  have hfr := hfa f
  have hfm := h.fl
  have b1 : (f : Int) < (most : Int) := by omega
  have z1 : (((n + 1 : Nat) : Int) == 0) = false := by simp; omega
  have z2 : ((n : Int) + 1 == 0) = false := by simp; omega
  have z3 : ¬ ((n : Int) + 1 = 0) := by omega
  go_enter Try.func18, Try.ntmps18
  go_wp2_with fail
  go_region
  go_wp2_with fail
  go_region
  have h2 := (h.setRow f 0).step (below_drew (below_drew (Below.refl _ _)))
  have k2 : Turn gb ga W (W.setCell ⟨ga, f, none⟩ ((Value.int .i64) 0)).drew.drew := Turn.drew (Turn.drew (Turn.setCell (Turn.refl gb ga W) (p := ⟨ga, f, none⟩) (Or.inl (Or.inr rfl)) _))
  clear c0 c1 c2 c3 cr hfr hfa hfb
  obtain ⟨W2, hW2⟩ : ∃ W2, W2 = (W.setCell ⟨ga, f, none⟩ ((Value.int .i64) 0)).drew.drew := ⟨_, rfl⟩
  rw [← hW2] at h2 k2 ⊢
  clear hW2
  go_wp2_with fail
  refine (place h2 1 (by omega)).mono ?_
  rintro e w3 ⟨rfl, hb3⟩
  have h3 := h2.step hb3
  have k3 := k2.below hb3
  have h4 := h3.setFirst ((f + 1) % most) (lt_mod _ h.m1)
  have k4 : Turn gb ga W (w3.setCell ⟨gb, 1, none⟩ (.int .i64 (((f + 1) % most : Nat) : Int))) := k3.setCell (p := ⟨gb, 1, none⟩) (Or.inl (Or.inl rfl)) _
  obtain ⟨c0, c1, c2, c3, hfb, hfa⟩ := h3.cells
  obtain ⟨d0, d1, d2, d3, gfb, gfa⟩ := h4.cells
  have f1 := hfb 1
  have f3 := gfb 2
  have e1 : wrap64 (((n + 1 : Nat) : Int) - 1) = (n : Int) := by rw [IntWalk.wrap64_in _ (by have := h.nl; have := h.m2; omega)]; omega
  have e3 : wrap64 (n : Int) = (n : Int) := by rw [IntWalk.wrap64_in _ (by have := h.nl; have := h.m2; omega)]
  have e2 : wrap64 ((n : Int) + 1 - 1) = (n : Int) := by rw [IntWalk.wrap64_in _ (by have := h.nl; have := h.m2; omega)]; omega
  go_wp2_with fail
  go_ret2
  have h5 := h4.setN n (by have := h.nl; omega)
  have k5 := k4.setCell (p := ⟨gb, 2, none⟩) (Or.inl (Or.inl rfl)) (.int .i64 (n : Int))
  push_cast at h5 k5
  exact ⟨rfl, h5, k5⟩

set_option maxRecDepth 100000 in
theorem len {W : World} {gb ga most f n lost : Nat} {vs : List Int} (h : Rg W gb ga most vs f n lost) :
    Calls Try.prog 23 #[.pointer (some ⟨gb, 0, none⟩)] W fun e w' => e = .returned (.int .i64 (n : Int)) ∧ Below W.heap.size W w' := by
  obtain ⟨c0, c1, c2, c3, hfb, hfa⟩ := h.cells
  go_enter Try.func23, Try.ntmps23
  go_wp2_with fail
  go_ret
  exact ⟨rfl, Below.refl _ _⟩
set_option maxRecDepth 100000 in
theorem lost {W : World} {gb ga most f n lost : Nat} {vs : List Int} (h : Rg W gb ga most vs f n lost) :
    Calls Try.prog 24 #[.pointer (some ⟨gb, 0, none⟩)] W fun e w' => e = .returned (.int .i64 (lost : Int)) ∧ Below W.heap.size W w' := by
  obtain ⟨c0, c1, c2, c3, hfb, hfa⟩ := h.cells
  go_enter Try.func24, Try.ntmps24
  go_wp2_with fail
  go_ret
  exact ⟨rfl, Below.refl _ _⟩

set_option maxRecDepth 100000 in
theorem new_bad (most : Int) (hm : most < 1 ∨ 64 < most) (W : World) :
    Calls Try.prog 17 #[.int .i64 most] W fun e w' => e = .returned (.tuple #[.pointer none, .int .i64 1]) ∧ w' = W := by
  by_cases h1 : most < 1
  · have t1 : decide (most < 1) = true := by simp; omega
    go_enter Try.func17, Try.ntmps17
    go_wp2_with fail
    go_ret2
    exact ⟨rfl, rfl⟩
  · have t1 : decide (most < 1) = false := by simp; omega
    have t2 : decide (most > 64) = true := by simp; omega
    have t3 : 64 < most := by omega
    go_enter Try.func17, Try.ntmps17
    go_wp2_with fail
    go_ret2
    exact ⟨rfl, rfl⟩
set_option maxRecDepth 100000 in
theorem new_ok (most : Nat) (h1 : 1 ≤ most) (h2 : most ≤ 64) (W : World) :
    Calls Try.prog 17 #[.int .i64 (most : Int)] W fun e w' => ∃ gb ga, e = .returned (.tuple #[.pointer (some ⟨gb, 0, none⟩), .int .i64 0]) ∧ Rg w' gb ga most (List.replicate most 0) 0 0 0 ∧ W.heap.size ≤ gb ∧ W.heap.size ≤ ga ∧ Below W.heap.size W w' := by
  have t1 : decide ((most : Int) < 1) = false := by simp; omega
  have t2 : decide ((most : Int) > 64) = false := by simp; omega
  have t3 : (most : Int) ≤ 64 := by omega
  have t4 : ¬ ((most : Int) < 1) := by omega
  have hinfo : (Try.prog.info? 3).map (fun i => (i.zero, i.size, i.bytes)) = some (some (Value.int .i64 0), 1, 8) := by kernel_rfl
  obtain ⟨i0, hi, hz⟩ := Option.map_eq_some_iff.1 hinfo
  simp only [Prod.mk.injEq] at hz
  obtain ⟨hz0, hz1, hz2⟩ := hz
  have hm := run_make (P := Try.prog) W 33 3 i0 (Value.int .i64 0) Try.underlying33 hi hz0 .i64 .i64 (most : Int) (most : Int) (by omega) (by omega) (by rw [hz2]; omega) (by omega)
  have hcs : madeCells ((Value.int .i64 0)).cells ((most : Int).toNat * i0.size) = ((List.replicate most 0).map (Value.int .i64)).toArray := by
    rw [hz1, Nat.mul_one, Int.toNat_natCast, ← Array.toList_inj]
    rw [show ((Value.int .i64 0)).cells = #[(Value.int .i64 0)] from rfl, toList_madeCells_one, List.map_replicate]
  obtain ⟨arr, harr⟩ : ∃ arr, arr = ((List.replicate most 0).map (Value.int .i64)).toArray := ⟨_, rfl⟩
  rw [hcs, Int.toNat_natCast, ← harr] at hm
  clear hcs hinfo hi hz0 hz1 hz2 i0
  go_enter Try.func17, Try.ntmps17
  go_wp2_with fail
  go_ret2
  refine ⟨W.heap.size + 1, rfl, W.heap.size, ?_, by omega, by omega, (below_alloc (below_alloc (Below.refl _ _) _) _)⟩
  have n1 := blk_new W (.cells arr 3)
  have n2 := blk_new (W.alloc (.cells arr 3)) (.cells #[.slice (some ⟨W.heap.size, 0, none⟩) most most, .int .i64 0, .int .i64 0, .int .i64 0] 87)
  rw [World.size_alloc] at n2
  have n3 := blk_alloc n1 (.cells #[.slice (some ⟨W.heap.size, 0, none⟩) most most, .int .i64 0, .int .i64 0, .int .i64 0] 87)
  have er : ((List.replicate most 0).map (Value.int .i64)).toArray = Array.replicate most (Value.int .i64 0) := by simp
  rw [harr, er] at n2 n3
  exact ⟨n2, by rw [er]; exact n3, by simp, h1, h2, by omega, by omega, by omega⟩
end Go.Proofs.Ytcmofedfbjpjlaa.RingInt

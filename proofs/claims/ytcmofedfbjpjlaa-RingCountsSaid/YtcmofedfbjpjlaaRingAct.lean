import Derived.Test.YtcmofedfbjpjlaaProg
import Derived.WalkKit
import Derived.Test.YtcmofedfbjpjlaaNats
import Derived.Test.YtcmofedfbjpjlaaWKept
import Derived.Test.YtcmofedfbjpjlaaWLast
import Derived.Handy
import Derived.Lib.Hide
import Derived.Laws.OwnMore
import Derived.RegionTactic
import Derived.BigRegion
/- A ring's functions, walked: what they hold behind a call. -/
set_option linter.unusedVariables false
set_option linter.unusedSimpArgs false
namespace Go.Proofs.Ytcmofedfbjpjlaa.RingAct
open Go.RowKit Go.Proofs.YtcmofedfbjpjlaaW.PrintWords Go.Proofs.YtcmofedfbjpjlaaW.PrintLast Go.Proofs.Ytcmofedfbjpjlaa.Nats

/-- The cells of a row of acts. -/
def flat (vs : List (Bool × Int)) : List Value := vs.flatMap (fun p => [.bool p.1, .int .i64 p.2])
theorem flat_get : ∀ (vs : List (Bool × Int)) (i : Nat), i < vs.length → (flat vs)[i * 2]? = some (.bool (vs.getD i (false, 0)).1) ∧ (flat vs)[i * 2 + 1]? = some (.int .i64 (vs.getD i (false, 0)).2)
  | [], i, h => absurd h (by simp)
  | p :: vs, 0, _ => by simp [flat]
  | p :: vs, i + 1, h => by
    have := flat_get vs i (by simpa using h)
    rw [show (i + 1) * 2 = i * 2 + 2 from by omega, show i * 2 + 2 + 1 = i * 2 + 1 + 2 from by omega]
    simpa [flat] using this
theorem made_flat (n : Nat) : madeCells (Value.agg #[.bool false, .int .i64 0]).cells (n * 2) = (flat (List.replicate n ((false, 0) : Bool × Int))).toArray := by
  apply Array.toList_inj.1
  unfold madeCells
  rw [Array.toList_map, Array.toList_range]
  simp only
  induction n with
  | zero => rfl
  | succ n ih =>
    rw [show (n + 1) * 2 = n * 2 + 1 + 1 from by omega, List.range_succ, List.range_succ, List.map_append, List.map_append, ih, List.replicate_succ']
    have e0 : n * 2 % 2 = 0 := by omega
    have e1 : (n * 2 + 1) % 2 = 1 := by omega
    simp [flat, Value.cells, e0, e1]
theorem flat_set : ∀ (vs : List (Bool × Int)) (i : Nat) (p : Bool × Int), ((flat vs).set (i * 2) (.bool p.1)).set (i * 2 + 1) (.int .i64 p.2) = flat (vs.set i p)
  | [], i, p => by simp [flat]
  | q :: vs, 0, p => by simp [flat]
  | q :: vs, i + 1, p => by
    have := flat_set vs i p
    rw [show (i + 1) * 2 = i * 2 + 1 + 1 from by omega]
    simp only [flat, List.flatMap_cons, List.cons_append, List.nil_append, List.set_cons_succ] at this ⊢
    rw [this]
/-- The ring's block and its row's. -/
structure Rg (W : World) (gb ga most : Nat) (vs : List (Bool × Int)) (f n lost : Nat) : Prop where
  box : W.heap[gb]? = some (.cells #[.slice (some ⟨ga, 0, none⟩) most most, .int .i64 (f : Int), .int .i64 (n : Int), .int .i64 (lost : Int)] 93 (0, 0))
  row : W.heap[ga]? = some (.cells (flat vs).toArray 29 (0, 0))
  len : vs.length = most
  m1 : 1 ≤ most
  m2 : most ≤ 64
  fl : f < most
  nl : n ≤ most
  ll : lost ≤ 1000
/-- What a ring's words may turn: its two blocks alone. -/
structure Turn (gb ga : Nat) (w w' : World) : Prop where
  os : w'.os = w.os
  tape : w'.tape = w.tape
  output : w'.output = w.output
  size : w.heap.size ≤ w'.heap.size
  block : ∀ k, k < w.heap.size → ¬ (k = gb ∨ k = ga) → w'.heap[k]? = w.heap[k]?
section
variable {gb ga : Nat} {w W W2 : World}
theorem Turn.refl (gb ga : Nat) (w : World) : Turn gb ga w w := ⟨rfl, rfl, rfl, Nat.le_refl _, fun _ _ _ => rfl⟩
theorem Turn.trans (h : Turn gb ga w W) (k : Turn gb ga W W2) : Turn gb ga w W2 :=
  ⟨k.os.trans h.os, k.tape.trans h.tape, k.output.trans h.output, Nat.le_trans h.size k.size, fun i hi hn => (k.block i (Nat.lt_of_lt_of_le hi h.size) hn).trans (h.block i hi hn)⟩
theorem Turn.of_below (hb : Below w.heap.size w W) : Turn gb ga w W := ⟨hb.os, hb.tape, hb.output, hb.size, fun i hi _ => hb.block i hi⟩
theorem Turn.below (h : Turn gb ga w W) (hb : Below W.heap.size W W2) : Turn gb ga w W2 := h.trans (Turn.of_below hb)
theorem Turn.drew (h : Turn gb ga w W) : Turn gb ga w W.drew := h.below (below_drew (Below.refl _ _))
theorem Turn.setCell (h : Turn gb ga w W) {p : Addr} (hp : (p.block = gb ∨ p.block = ga) ∨ False) (u : Value) : Turn gb ga w (W.setCell p u) :=
  h.trans ⟨rfl, rfl, rfl, by simp [World.setCell], fun i _ hn => Below.heap_setCell W p u i (fun e => hn (e ▸ hp.resolve_right id))⟩
theorem Turn.setNew (h : Turn gb ga w W) {p : Addr} (hp : w.heap.size ≤ p.block) (u : Value) : Turn gb ga w (W.setCell p u) :=
  ⟨h.os, h.tape, h.output, by rw [World.setCell]; simpa using h.size, fun i hi hn => (Below.heap_setCell W p u i (by omega)).trans (h.block i hi hn)⟩
/-- Both blocks are new since w0. -/
theorem Turn.up {w0 : World} (h : Turn gb ga w W) (hb : Below w0.heap.size w0 w) (h1 : w0.heap.size ≤ gb) (h2 : w0.heap.size ≤ ga) : Below w0.heap.size w0 W :=
  ⟨h.os.trans hb.os, h.tape.trans hb.tape, h.output.trans hb.output, Nat.le_trans hb.size h.size, fun i hi => (h.block i (Nat.lt_of_lt_of_le hi hb.size) (by omega)).trans (hb.block i hi)⟩
end
section
variable {W w2 : World} {gb ga most f n lost : Nat} {vs : List (Bool × Int)}
theorem Rg.step (h : Rg W gb ga most vs f n lost) (hb : Below W.heap.size W w2) : Rg w2 gb ga most vs f n lost :=
  ⟨blk_below h.box hb, blk_below h.row hb, h.len, h.m1, h.m2, h.fl, h.nl, h.ll⟩
theorem Rg.kept (h : Rg W gb ga most vs f n lost) {g1 g2 : Nat} (hb : Turn g1 g2 W w2) (h1 : ¬ (gb = g1 ∨ gb = g2)) (h2 : ¬ (ga = g1 ∨ ga = g2)) : Rg w2 gb ga most vs f n lost :=
  ⟨(hb.block gb (blk_lt h.box) h1).trans h.box, (hb.block ga (blk_lt h.row) h2).trans h.row, h.len, h.m1, h.m2, h.fl, h.nl, h.ll⟩
theorem Rg.ne (h : Rg W gb ga most vs f n lost) : gb ≠ ga := blk_ne h.box h.row (by decide)
theorem Rg.cell (h : Rg W gb ga most vs f n lost) {i : Nat} (hi : i < most) : W.cell? ⟨ga, i * 2, none⟩ = some (.bool (vs.getD i (false, 0)).1) ∧ W.cell? ⟨ga, i * 2 + 1, none⟩ = some (.int .i64 (vs.getD i (false, 0)).2) := by
  have hl := h.len
  rw [blk_cell h.row (i * 2), blk_cell h.row (i * 2 + 1)]
  have h2 := flat_get vs i (by omega)
  simp only [List.getElem?_toArray]
  exact h2
end
theorem tmod_nat (a b : Nat) : ((a : Int)).tmod (b : Int) = ((a % b : Nat) : Int) := by
  rw [Int.tmod_eq_emod_of_nonneg (by omega)]; simp
theorem lt_mod (a : Nat) {most : Nat} (h : 1 ≤ most) : a % most < most := Nat.mod_lt _ (by omega)

set_option maxRecDepth 100000 in
set_option maxHeartbeats 1000000 in
theorem placeX {W : World} {gb ga most f n lost : Nat} {vs : List (Bool × Int)} (h : Rg W gb ga most vs f n lost) (i : Nat) (hi : i ≤ 64) :
    Calls Try.prog 54 #[.pointer (some ⟨gb, 0, none⟩), .int .i64 (i : Int)] W fun e w' => e = .returned (.int .i64 (((f + i) % most : Nat) : Int)) ∧ w' = W.drew := by
  have c0 : W.cell? ⟨gb, 0, none⟩ = some (.slice (some ⟨ga, 0, none⟩) most most) := blk_cell h.box 0
  have c1 : W.cell? ⟨gb, 1, none⟩ = some (.int .i64 (f : Int)) := blk_cell h.box 1
  have z : ¬ most = 0 := by have := h.m1; omega
  have e1 : wrap64 ((f : Int) + (i : Int)) = ((f + i : Nat) : Int) := by rw [IntWalk.wrap64_in _ (by have := h.m2; have := h.fl; omega)]; simp
  have e2 : wrap64 (((f + i : Nat) : Int).tmod (most : Int)) = (((f + i) % most : Nat) : Int) := by
    rw [tmod_nat]
    have := lt_mod (f + i) h.m1
    have := h.m2
    exact IntWalk.wrap64_in _ (by omega)
  go_enter Try.func54, Try.ntmps54
  go_wp2_with fail
  go_region
  go_wp2_with fail
  go_ret
  exact ⟨by simp, rfl⟩
theorem place {W : World} {gb ga most f n lost : Nat} {vs : List (Bool × Int)} (h : Rg W gb ga most vs f n lost) (i : Nat) (hi : i ≤ 64) :
    Calls Try.prog 54 #[.pointer (some ⟨gb, 0, none⟩), .int .i64 (i : Int)] W fun e w' => e = .returned (.int .i64 (((f + i) % most : Nat) : Int)) ∧ Below W.heap.size W w' :=
  (placeX h i hi).mono fun e w' he => ⟨he.1, he.2 ▸ below_drew (Below.refl _ _)⟩

/-- What a ring's word needs of the world. -/
theorem Rg.cells {W : World} {gb ga most f n lost : Nat} {vs : List (Bool × Int)} (h : Rg W gb ga most vs f n lost) :
    W.cell? ⟨gb, 0, none⟩ = some (.slice (some ⟨ga, 0, none⟩) most most) ∧ W.cell? ⟨gb, 1, none⟩ = some (.int .i64 (f : Int)) ∧ W.cell? ⟨gb, 2, none⟩ = some (.int .i64 (n : Int)) ∧ W.cell? ⟨gb, 3, none⟩ = some (.int .i64 (lost : Int)) ∧
    (∀ i, W.frozen? ⟨gb, i, none⟩ = false) ∧ (∀ i, W.frozen? ⟨ga, i, none⟩ = false) :=
  ⟨blk_cell h.box 0, blk_cell h.box 1, blk_cell h.box 2, blk_cell h.box 3, fun i => blk_frozen h.box i, fun i => blk_frozen h.row i⟩
theorem Rg.setRow {W : World} {gb ga most f n lost : Nat} {vs : List (Bool × Int)} (h : Rg W gb ga most vs f n lost) (i : Nat) (p : Bool × Int) : Rg ((W.setCell ⟨ga, i * 2, none⟩ (.bool p.1)).setCell ⟨ga, i * 2 + 1, none⟩ (.int .i64 p.2)) gb ga most (vs.set i p) f n lost := by
  refine ⟨blk_far (blk_far h.box (p := ⟨ga, i * 2, none⟩) h.ne _) (p := ⟨ga, i * 2 + 1, none⟩) h.ne _, blk_put (blk_put h.row (i * 2) _ rfl) (i * 2 + 1) _ ?_, by rw [List.length_set]; exact h.len, h.m1, h.m2, h.fl, h.nl, h.ll⟩
  rw [← flat_set]
  simp
theorem Rg.setFirst {W : World} {gb ga most f n lost : Nat} {vs : List (Bool × Int)} (h : Rg W gb ga most vs f n lost) (f' : Nat) (hf : f' < most) : Rg (W.setCell ⟨gb, 1, none⟩ (.int .i64 (f' : Int))) gb ga most vs f' n lost :=
  ⟨blk_put h.box 1 _ rfl, blk_far h.row (p := ⟨gb, 1, none⟩) h.ne.symm _, h.len, h.m1, h.m2, hf, h.nl, h.ll⟩
theorem Rg.setN {W : World} {gb ga most f n lost : Nat} {vs : List (Bool × Int)} (h : Rg W gb ga most vs f n lost) (n' : Nat) (hf : n' ≤ most) : Rg (W.setCell ⟨gb, 2, none⟩ (.int .i64 (n' : Int))) gb ga most vs f n' lost :=
  ⟨blk_put h.box 2 _ rfl, blk_far h.row (p := ⟨gb, 2, none⟩) h.ne.symm _, h.len, h.m1, h.m2, h.fl, hf, h.ll⟩
theorem Rg.setLost {W : World} {gb ga most f n lost : Nat} {vs : List (Bool × Int)} (h : Rg W gb ga most vs f n lost) (l' : Nat) (hf : l' ≤ 1000) : Rg (W.setCell ⟨gb, 3, none⟩ (.int .i64 (l' : Int))) gb ga most vs f n l' :=
  ⟨blk_put h.box 3 _ rfl, blk_far h.row (p := ⟨gb, 3, none⟩) h.ne.symm _, h.len, h.m1, h.m2, h.fl, h.nl, hf⟩

theorem placeK {W : World} {gb ga most f n lost : Nat} {vs : List (Bool × Int)} (h : Rg W gb ga most vs f n lost) (i k : Nat) (hi : i ≤ 64) (hk : (f + i) % most = k) :
    Calls Try.prog 54 #[.pointer (some ⟨gb, 0, none⟩), .int .i64 (i : Int)] W fun e w' => e = .returned (.int .i64 (k : Int)) ∧ Below W.heap.size W w' := hk ▸ place h i hi

theorem held {W w0 : World} {gb ga most f n lost : Nat} {vs : List (Bool × Int)} (h : Rg W gb ga most vs f n lost) (hk : Turn gb ga w0 W) :
    Rg W gb ga most vs f n lost ∧ Turn gb ga w0 W ∧ W.cell? ⟨gb, 0, none⟩ = some (.slice (some ⟨ga, 0, none⟩) most most) ∧ W.cell? ⟨gb, 1, none⟩ = some (.int .i64 (f : Int)) ∧ W.cell? ⟨gb, 2, none⟩ = some (.int .i64 (n : Int)) ∧ W.cell? ⟨gb, 3, none⟩ = some (.int .i64 (lost : Int)) :=
  ⟨h, hk, h.cells.1, h.cells.2.1, h.cells.2.2.1, h.cells.2.2.2.1⟩

theorem Rg.other {W : World} {gb ga most f n lost : Nat} {vs : List (Bool × Int)} (h : Rg W gb ga most vs f n lost) {p : Addr} (h1 : gb ≠ p.block) (h2 : ga ≠ p.block) (u : Value) : Rg (W.setCell p u) gb ga most vs f n lost :=
  ⟨blk_far h.box h1 _, blk_far h.row h2 _, h.len, h.m1, h.m2, h.fl, h.nl, h.ll⟩
theorem held2 {W w0 : World} {gb ga most f n lost bb : Nat} {vs : List (Bool × Int)} {p : Bool} {x : Int} (h : Rg W gb ga most vs f n lost) (hk : Turn gb ga w0 W) (hb : W.heap[bb]? = some (.cells #[.bool p, .int .i64 x] 29 (0, 0))) :
    Rg W gb ga most vs f n lost ∧ Turn gb ga w0 W ∧ W.cell? ⟨gb, 0, none⟩ = some (.slice (some ⟨ga, 0, none⟩) most most) ∧ W.cell? ⟨gb, 1, none⟩ = some (.int .i64 (f : Int)) ∧ W.cell? ⟨gb, 2, none⟩ = some (.int .i64 (n : Int)) ∧ W.cell? ⟨gb, 3, none⟩ = some (.int .i64 (lost : Int)) ∧ W.heap[bb]? = some (.cells #[.bool p, .int .i64 x] 29 (0, 0)) ∧ W.cell? ⟨bb, 0, none⟩ = some (.bool p) ∧ W.cell? ⟨bb, 1, none⟩ = some (.int .i64 x) :=
  ⟨h, hk, h.cells.1, h.cells.2.1, h.cells.2.2.1, h.cells.2.2.2.1, hb, blk_cell hb 0, blk_cell hb 1⟩

set_option maxRecDepth 100000 in
set_option maxHeartbeats 1000000 in
theorem put_full {W : World} {gb ga most f lost : Nat} {vs : List (Bool × Int)} (h : Rg W gb ga most vs f most lost) (hl : lost < 1000) (p : Bool) (x : Int) :
    Calls Try.prog 28 #[.pointer (some ⟨gb, 0, none⟩), .agg #[.bool p, .int .i64 x]] W fun e w' => e = .returned (.bool false) ∧ Rg w' gb ga most (vs.set f (p, x)) ((f + 1) % most) most (lost + 1) ∧ Turn gb ga W w' := by
  have hb0 : Below W.heap.size W (W.alloc (.cells #[.bool p, .int .i64 x] 29)) := below_alloc (Below.refl _ _) _
  have h0 := h.step hb0
  have kn := blk_new W (.cells #[.bool p, .int .i64 x] 29)
  have k0 : (W.alloc (.cells #[.bool p, .int .i64 x] 29)).cell? ⟨W.heap.size, 0, none⟩ = some (.bool p) := blk_cell kn 0
  have k1 : (W.alloc (.cells #[.bool p, .int .i64 x] 29)).cell? ⟨W.heap.size, 1, none⟩ = some (.int .i64 x) := blk_cell kn 1
  clear kn
  have k2 : Turn gb ga W (W.alloc (.cells #[.bool p, .int .i64 x] 29)) := Turn.of_below hb0
  obtain ⟨c0, c1, c2, c3, hfb, hfa⟩ := h0.cells
  obtain ⟨cr, cr2⟩ := h0.cell h.fl
  have hfr := hfa (f * 2)
  have hfr2 := hfa (f * 2 + 1)
  have hfm := h.fl
  have b1 : (f : Int) < (most : Int) := by omega
  clear hb0
  go_enter Try.func28, Try.ntmps28
  go_wp2_with fail
  go_region
  go_wp2_with fail
  go_region
  have h2 := (h0.setRow f (p, x)).step (below_drew (below_drew (Below.refl _ _)))
  have k3 : Turn gb ga W (((W.alloc (.cells #[.bool p, .int .i64 x] 29)).setCell ⟨ga, f * 2, none⟩ (.bool p)).setCell ⟨ga, f * 2 + 1, none⟩ (.int .i64 x)).drew.drew := ((k2.setCell (p := ⟨ga, f * 2, none⟩) (Or.inl (Or.inr rfl)) _).setCell (p := ⟨ga, f * 2 + 1, none⟩) (Or.inl (Or.inr rfl)) _).drew.drew
  clear c0 c1 c2 c3 cr cr2 hfr hfr2 hfa hfb k0 k1 k2
  obtain ⟨W2, hW2⟩ : ∃ W2, W2 = (((W.alloc (.cells #[.bool p, .int .i64 x] 29)).setCell ⟨ga, f * 2, none⟩ (.bool p)).setCell ⟨ga, f * 2 + 1, none⟩ (.int .i64 x)).drew.drew := ⟨_, rfl⟩
  simp only at h2
  rw [← hW2] at h2 k3 ⊢
  clear hW2
  go_wp2_with fail
  refine (place h2 1 (by omega)).mono ?_
  rintro e w3 ⟨rfl, hb3⟩
  have h3 := h2.step hb3
  have k3 := k3.below hb3
  have h4 := h3.setFirst ((f + 1) % most) (lt_mod _ h.m1)
  have k4 : Turn gb ga W (w3.setCell ⟨gb, 1, none⟩ (.int .i64 (((f + 1) % most : Nat) : Int))) := k3.setCell (p := ⟨gb, 1, none⟩) (Or.inl (Or.inl rfl)) _
  obtain ⟨c0, c1, c2, c3, hfb, hfa⟩ := h3.cells
  obtain ⟨d0, d1, d2, d3, gfb, gfa⟩ := h4.cells
  have f1 := hfb 1
  have f3 := gfb 3
  have e1 : wrap64 ((lost : Int) + 1) = ((lost + 1 : Nat) : Int) := by rw [IntWalk.wrap64_in _ (by omega)]; simp
  go_wp2_with fail
  go_ret
  have h5 := h4.setLost (lost + 1) (by omega)
  have k5 := k4.setCell (p := ⟨gb, 3, none⟩) (Or.inl (Or.inl rfl)) (.int .i64 ((lost + 1 : Nat) : Int))
  push_cast at h5 k5
  exact ⟨rfl, h5, k5⟩

set_option maxRecDepth 100000 in
set_option maxHeartbeats 1000000 in
theorem put_room {W : World} {gb ga most f n lost : Nat} {vs : List (Bool × Int)} (h : Rg W gb ga most vs f n lost) (hn : n < most) (p : Bool) (x : Int) :
    Calls Try.prog 28 #[.pointer (some ⟨gb, 0, none⟩), .agg #[.bool p, .int .i64 x]] W fun e w' => e = .returned (.bool true) ∧ Rg w' gb ga most (vs.set ((f + n) % most) (p, x)) f (n + 1) lost ∧ Turn gb ga W w' := by
  have hb0 : Below W.heap.size W (W.alloc (.cells #[.bool p, .int .i64 x] 29)) := below_alloc (Below.refl _ _) _
  have h0 := h.step hb0
  have kn := blk_new W (.cells #[.bool p, .int .i64 x] 29)
  have k2 : Turn gb ga W (W.alloc (.cells #[.bool p, .int .i64 x] 29)) := Turn.of_below hb0
  obtain ⟨c0, c1, c2, c3, hfb, hfa⟩ := h0.cells
  have b1 : ((n : Int) == (most : Int)) = false := by simp; omega
  have b2 : ¬ n = most := by omega
  have hm1 := h.m1
  clear hb0
  go_enter Try.func28, Try.ntmps28
  go_wp2_with fail
  go_region
  go_wp2_with fail
  clear c0 c1 c2 c3 hfb hfa
  have h1 := h0.step (below_drew (Below.refl _ _))
  have k1 : Turn gb ga W (W.alloc (.cells #[.bool p, .int .i64 x] 29)).drew := k2.drew
  have kn1 : (W.alloc (.cells #[.bool p, .int .i64 x] 29)).drew.heap[W.heap.size]? = some (.cells #[.bool p, .int .i64 x] 29 (0, 0)) := kn
  obtain ⟨W1, hW1⟩ : ∃ W1, W1 = (W.alloc (.cells #[.bool p, .int .i64 x] 29)).drew := ⟨_, rfl⟩
  rw [← hW1] at h1 k1 kn1 ⊢
  clear hW1 k2 kn
  obtain ⟨k, hk⟩ : ∃ k, (f + n) % most = k := ⟨_, rfl⟩
  have hlt : k < most := hk ▸ lt_mod (f + n) hm1
  obtain ⟨bb, hbb⟩ : ∃ bb, bb = W.heap.size := ⟨_, rfl⟩
  rw [← hbb] at kn1 ⊢
  clear hbb
  refine start_ (n := 13) (S := fun wx => Rg wx gb ga most vs f n lost ∧ Turn gb ga W wx ∧ wx.cell? ⟨gb, 0, none⟩ = some (.slice (some ⟨ga, 0, none⟩) most most) ∧ wx.cell? ⟨gb, 1, none⟩ = some (.int .i64 (f : Int)) ∧ wx.cell? ⟨gb, 2, none⟩ = some (.int .i64 (n : Int)) ∧ wx.cell? ⟨gb, 3, none⟩ = some (.int .i64 (lost : Int)) ∧ wx.heap[bb]? = some (.cells #[.bool p, .int .i64 x] 29 (0, 0)) ∧ wx.cell? ⟨bb, 0, none⟩ = some (.bool p) ∧ wx.cell? ⟨bb, 1, none⟩ = some (.int .i64 x)) (ds := [12]) #[false, false, false, false, false, false, false, false, false, false, false, false, false] (by kernel_rfl) rfl rfl (held2 (h1.step (below_drew (Below.refl _ _))) k1.drew kn1) (fun hHeld => ?_)
  refine pure_ (i := 0) (N := some 37) (v := ?_) (a' := ?_) #[true, false, false, false, false, false, false, false, false, false, false, false, false] rfl rfl (by kernel_rfl) (fun _ _ _ h => h) (Or.inl ⟨by rfl, ?_⟩) ?_ ?_
  rotate_left
  · intro w'
    go_simp
    try with_reducible rfl
  rotate_left
  · simp only [Act.put, List.setIfInBounds_toArray, List.set_cons_zero, List.set_cons_succ, i64_w, i32_w]
    rfl
  refine pure_ (i := 1) (N := some 38) (v := ?_) (a' := ?_) #[true, true, false, false, false, false, false, false, false, false, false, false, false] rfl rfl (by kernel_rfl) (fun _ _ _ h => h) (Or.inl ⟨by rfl, ?_⟩) ?_ ?_
  rotate_left
  · intro w'
    go_simp
    try with_reducible rfl
  rotate_left
  · simp only [Act.put, List.setIfInBounds_toArray, List.set_cons_zero, List.set_cons_succ, i64_w, i32_w]
    rfl
  refine pure_ (i := 2) (N := some 39) (v := ?_) (a' := ?_) #[true, true, true, false, false, false, false, false, false, false, false, false, false] rfl rfl (by kernel_rfl) (fun _ _ _ h => h) (Or.inl ⟨by rfl, ?_⟩) ?_ ?_
  rotate_left
  · intro w'
    go_simp
    try with_reducible rfl
  rotate_left
  · simp only [Act.put, List.setIfInBounds_toArray, List.set_cons_zero, List.set_cons_succ, i64_w, i32_w]
    rfl
  refine take_ (i := 3) (N := some 40) (v := ?_) (a' := ?_) #[true, true, true, true, false, false, false, false, false, false, false, false, false] rfl rfl (by kernel_rfl) (fun _ _ _ h => h) (Or.inl ⟨by rfl, ?_⟩) hHeld ?_ ?_
  rotate_left
  · rintro w' ⟨_, _, s0, s1, s2, s3, _, s4, s5⟩
    go_simp
    with_reducible rfl
  rotate_left
  · simp only [Act.put, List.setIfInBounds_toArray, List.set_cons_zero, List.set_cons_succ, i64_w, i32_w]
    rfl
  refine pure_ (i := 4) (N := some 41) (v := ?_) (a' := ?_) #[true, true, true, true, true, false, false, false, false, false, false, false, false] rfl rfl (by kernel_rfl) (fun _ _ _ h => h) (Or.inl ⟨by rfl, ?_⟩) ?_ ?_
  rotate_left
  · intro w'
    go_simp
    try with_reducible rfl
  rotate_left
  · simp only [Act.put, List.setIfInBounds_toArray, List.set_cons_zero, List.set_cons_succ, i64_w, i32_w]
    rfl
  refine pure_ (i := 5) (N := some 42) (v := ?_) (a' := ?_) #[true, true, true, true, true, true, false, false, false, false, false, false, false] rfl rfl (by kernel_rfl) (fun _ _ _ h => h) (Or.inl ⟨by rfl, ?_⟩) ?_ ?_
  rotate_left
  · intro w'
    go_simp
    try with_reducible rfl
  rotate_left
  · simp only [Act.put, List.setIfInBounds_toArray, List.set_cons_zero, List.set_cons_succ, i64_w, i32_w]
    rfl
  refine pure_ (i := 6) (N := some 43) (v := ?_) (a' := ?_) #[true, true, true, true, true, true, true, false, false, false, false, false, false] rfl rfl (by kernel_rfl) (fun _ _ _ h => h) (Or.inl ⟨by rfl, ?_⟩) ?_ ?_
  rotate_left
  · intro w'
    go_simp
    try with_reducible rfl
  rotate_left
  · simp only [Act.put, List.setIfInBounds_toArray, List.set_cons_zero, List.set_cons_succ, i64_w, i32_w]
    rfl
  refine pure_ (i := 7) (N := some 44) (v := ?_) (a' := ?_) #[true, true, true, true, true, true, true, true, false, false, false, false, false] rfl rfl (by kernel_rfl) (fun _ _ _ h => h) (Or.inl ⟨by rfl, ?_⟩) ?_ ?_
  rotate_left
  · intro w'
    go_simp
    try with_reducible rfl
  rotate_left
  · simp only [Act.put, List.setIfInBounds_toArray, List.set_cons_zero, List.set_cons_succ, i64_w, i32_w]
    rfl
  refine take_ (i := 8) (N := some 45) (v := ?_) (a' := ?_) #[true, true, true, true, true, true, true, true, true, false, false, false, false] rfl rfl (by kernel_rfl) (fun _ _ _ h => h) (Or.inl ⟨by rfl, ?_⟩) hHeld ?_ ?_
  rotate_left
  · rintro w' ⟨_, _, s0, s1, s2, s3, _, s4, s5⟩
    go_simp
    with_reducible rfl
  rotate_left
  · simp only [Act.put, List.setIfInBounds_toArray, List.set_cons_zero, List.set_cons_succ, i64_w, i32_w]
    rfl
  refine take_ (i := 10) (N := some 47) (v := ?_) (a' := ?_) #[true, true, true, true, true, true, true, true, true, false, true, false, false] rfl rfl (by kernel_rfl) (fun _ _ _ h => h) (Or.inl ⟨by rfl, ?_⟩) hHeld ?_ ?_
  rotate_left
  · rintro w' ⟨_, _, s0, s1, s2, s3, _, s4, s5⟩
    go_simp
    with_reducible rfl
  rotate_left
  · simp only [Act.put, List.setIfInBounds_toArray, List.set_cons_zero, List.set_cons_succ, i64_w, i32_w]
    rfl
  refine one_ (i := 9) (N := some 46) #[true, true, true, true, true, true, true, true, true, true, true, false, false] rfl rfl (by kernel_rfl) (by decide) (fun K hK => ?_)
  refine goes_ Try.func54 (by kernel_rfl) rfl #[.pointer (some ⟨gb, 0, none⟩), .int .i64 (n : Int)] (by rfl) rfl rfl (by (try simp only [List.map_toArray, List.map_cons, List.map_nil]); first | done | rfl) ?_
  refine (placeK hHeld.1 n k (by have := h.m2; omega) hk).mono ?_
  rintro e w3 ⟨rfl, hb3⟩
  refine ⟨_, rfl, ?_⟩
  have hcr := (hHeld.1.step hb3).cell hlt
  obtain ⟨hcr1, hcr2⟩ := hcr
  have hfr := (hHeld.1.step hb3).cells.2.2.2.2.2 (k * 2)
  have hfr2 := (hHeld.1.step hb3).cells.2.2.2.2.2 (k * 2 + 1)
  refine hK.out _ _ (held2 (hHeld.1.step hb3) (hHeld.2.1.below hb3) (blk_below hHeld.2.2.2.2.2.2.1 hb3)) (fun hHeld => ?_)
  clear hK K
  refine norm_ (a' := ?_) ?_ ?_
  rotate_left
  · show Act.put _ (some 46) _ = _
    simp only [Act.put, List.setIfInBounds_toArray, List.set_cons_zero, List.set_cons_succ, i64_w, i32_w]
    rfl
  refine pure_ (i := 11) (N := some 48) (v := ?_) (a' := ?_) #[true, true, true, true, true, true, true, true, true, true, true, true, false] rfl rfl (by kernel_rfl) (fun _ _ _ h => h) (Or.inl ⟨by rfl, ?_⟩) ?_ ?_
  rotate_left
  · intro w'
    go_simp
    try with_reducible rfl
  rotate_left
  · simp only [Act.put, List.setIfInBounds_toArray, List.set_cons_zero, List.set_cons_succ, i64_w, i32_w]
    rfl
  refine last_ (i := 12) (N := none) #[true, true, true, true, true, true, true, true, true, true, true, true, true] rfl rfl (by kernel_rfl) (by decide) (fun K hK => ?_)
  refine skip_ (w1 := ((w3.setCell ⟨ga, k * 2, none⟩ (.bool p)).setCell ⟨ga, k * 2 + 1, none⟩ (.int .i64 x))) (by rfl) rfl ?_ ?_
  · first
    | (go_simp; done)
    | (go_simp; rfl)
  refine hK.out _ _ ?_
  clear hK K
  refine norm_ (a' := ?_) ?_ ?_
  rotate_left
  · rfl
  refine done_ (by kernel_rfl) ?_
  have h4 := hHeld.1.setRow k (p, x)
  simp only at h4
  have k4 : Turn gb ga W ((w3.setCell ⟨ga, k * 2, none⟩ (.bool p)).setCell ⟨ga, k * 2 + 1, none⟩ (.int .i64 x)) := (hHeld.2.1.setCell (p := ⟨ga, k * 2, none⟩) (Or.inl (Or.inr rfl)) _).setCell (p := ⟨ga, k * 2 + 1, none⟩) (Or.inl (Or.inr rfl)) _
  obtain ⟨d0, d1, d2, d3, gfb, gfa⟩ := h4.cells
  have f2 := gfb 2
  have e1 : wrap64 ((n : Int) + 1) = ((n + 1 : Nat) : Int) := by rw [IntWalk.wrap64_in _ (by have := h.m2; omega)]; simp
  go_wp2_with fail
  go_ret
  have h5 := h4.setN (n + 1) (by omega)
  have k5 := k4.setCell (p := ⟨gb, 2, none⟩) (Or.inl (Or.inl rfl)) (.int .i64 ((n + 1 : Nat) : Int))
  rw [hk]
  push_cast at h5 k5
  exact ⟨rfl, h5, k5⟩

set_option maxRecDepth 100000 in
set_option maxHeartbeats 1000000 in
theorem take_none {W : World} {gb ga most f lost : Nat} {vs : List (Bool × Int)} (h : Rg W gb ga most vs f 0 lost) :
    Calls Try.prog 27 #[.pointer (some ⟨gb, 0, none⟩)] W fun e w' => (∃ q y, e = .returned (.tuple #[.agg #[.bool q, .int .i64 y], .bool false])) ∧ Below W.heap.size W w' := by
  have hb0 : Below W.heap.size W ((W.alloc (.cells #[.bool false, .int .i64 0] 29)).alloc (.cells #[.bool false, .int .i64 0] 29)) := below_alloc (below_alloc (Below.refl _ _) _) _
  obtain ⟨c0, c1, c2, c3, hfb, hfa⟩ := (h.step hb0).cells
  go_enter Try.func27, Try.ntmps27
  go_wp2_with fail
  go_returns
  exact ⟨⟨_, _, rfl⟩, hb0⟩

set_option maxRecDepth 100000 in
set_option maxHeartbeats 1000000 in
theorem take_one {W : World} {gb ga most f n lost : Nat} {vs : List (Bool × Int)} (h : Rg W gb ga most vs f (n + 1) lost) :
    Calls Try.prog 27 #[.pointer (some ⟨gb, 0, none⟩)] W fun e w' => (∃ q y, e = .returned (.tuple #[.agg #[.bool q, .int .i64 y], .bool true])) ∧ Rg w' gb ga most (vs.set f (false, 0)) ((f + 1) % most) n lost ∧ Turn gb ga W w' := by
  obtain ⟨Wa, hWa⟩ : ∃ Wa, Wa = (W.alloc (.cells #[.bool false, .int .i64 0] 29)).alloc (.cells #[.bool false, .int .i64 0] 29) := ⟨_, rfl⟩
  have hb0 : Below W.heap.size W Wa := hWa ▸ below_alloc (below_alloc (Below.refl _ _) _) _
  have h0 := h.step hb0
  obtain ⟨c0, c1, c2, c3, hfb, hfa⟩ := h0.cells
  obtain ⟨cr, cr2⟩ := h0.cell h.fl
  obtain ⟨⟨q, y⟩, hp⟩ : ∃ p, vs.getD f (false, 0) = p := ⟨_, rfl⟩
  rw [hp] at cr cr2
  have hfm := h.fl
  have b1 : (f : Int) < (most : Int) := by omega
  have z1 : (((n + 1 : Nat) : Int) == 0) = false := by simp; omega
  have z2 : ((n : Int) + 1 == 0) = false := by simp; omega
  have z3 : ¬ ((n : Int) + 1 = 0) := by omega
  have hb1 : Below W.heap.size W (Wa.alloc (.cells #[.bool false, .int .i64 0] 29)) := below_alloc hb0 _
  have h1 := h.step hb1
  obtain ⟨d0, d1, d2, d3, gfb, gfa⟩ := h1.cells
  obtain ⟨dr, dr2⟩ := h1.cell h.fl
  rw [hp] at dr dr2
  have hsz : Wa.heap.size = W.heap.size + 2 := by rw [hWa]; simp
  rw [hWa] at c0 c1 c2 c3 cr cr2 hfb hfa d0 d1 d2 d3 dr dr2 gfb gfa
  clear hp
  go_enter Try.func27, Try.ntmps27
  go_wp2_with fail
  go_region
  obtain ⟨Wb, hWb⟩ : ∃ Wb, Wb = (((W.alloc (.cells #[.bool false, .int .i64 0] 29)).alloc (.cells #[.bool false, .int .i64 0] 29)).alloc (.cells #[.bool q, .int .i64 y] 29)).drew := ⟨_, rfl⟩
  have hbb : Below W.heap.size W Wb := hWb ▸ below_drew (below_alloc (below_alloc (below_alloc (Below.refl _ _) _) _) _)
  have hb := h.step hbb
  have tb : Turn gb ga W Wb := Turn.of_below hbb
  have ngb : gb < W.heap.size := blk_lt h.box
  have nga : ga < W.heap.size := blk_lt h.row
  have x0 : Wb.heap[W.heap.size]? = some (.cells #[.bool false, .int .i64 0] 29 (0, 0)) := by
    rw [hWb]
    exact blk_drew (blk_alloc (blk_alloc (blk_new _ _) _) _)
  have x1 : Wb.heap[W.heap.size + 1]? = some (.cells #[.bool false, .int .i64 0] 29 (0, 0)) := by
    rw [hWb]
    have := blk_new (W.alloc (.cells #[.bool false, .int .i64 0] 29)) (.cells #[.bool false, .int .i64 0] 29)
    rw [World.size_alloc] at this
    exact blk_drew (blk_alloc this _)
  have x2 : Wb.heap[W.heap.size + 1 + 1]? = some (.cells #[.bool q, .int .i64 y] 29 (0, 0)) := by
    rw [hWb]
    have := blk_new ((W.alloc (.cells #[.bool false, .int .i64 0] 29)).alloc (.cells #[.bool false, .int .i64 0] 29)) (.cells #[.bool q, .int .i64 y] 29)
    rw [World.size_alloc, World.size_alloc] at this
    exact blk_drew this
  obtain ⟨B, hB⟩ : ∃ B, B = W.heap.size := ⟨_, rfl⟩
  rw [← hB] at ngb nga x0 x1 x2 hsz ⊢
  rw [← hWb]
  have HB := Lib.hid hB
  clear hB
  clear c0 c1 c2 c3 cr cr2 hfb hfa d0 d1 d2 d3 dr dr2 gfb gfa h0 h1 hb0 hb1 hWa hWb hbb
  obtain ⟨c0, c1, c2, c3, hfb, hfa⟩ := hb.cells
  obtain ⟨cr, cr2⟩ := hb.cell h.fl
  have hfr := hfa (f * 2)
  have hfr2 := hfa (f * 2 + 1)
  have y0 : Wb.cell? ⟨B + 1, 0, none⟩ = some (.bool false) := blk_cell x1 0
  have y1 : Wb.cell? ⟨B + 1, 1, none⟩ = some (.int .i64 0) := blk_cell x1 1
  go_wp2_with fail
  go_region
  have h2 := (hb.setRow f (false, 0)).step (below_drew (Below.refl _ _))
  simp only at h2
  have k3 : Turn gb ga W ((Wb.setCell ⟨ga, f * 2, none⟩ (.bool false)).setCell ⟨ga, f * 2 + 1, none⟩ (.int .i64 0)).drew := ((tb.setCell (p := ⟨ga, f * 2, none⟩) (Or.inl (Or.inr rfl)) _).setCell (p := ⟨ga, f * 2 + 1, none⟩) (Or.inl (Or.inr rfl)) _).drew
  have x0 := blk_drew (blk_far (blk_far x0 (p := ⟨ga, f * 2, none⟩) (by show B ≠ ga; omega) (.bool false)) (p := ⟨ga, f * 2 + 1, none⟩) (by show B ≠ ga; omega) (.int .i64 0))
  have x2 := blk_drew (blk_far (blk_far x2 (p := ⟨ga, f * 2, none⟩) (by show B + 1 + 1 ≠ ga; omega) (.bool false)) (p := ⟨ga, f * 2 + 1, none⟩) (by show B + 1 + 1 ≠ ga; omega) (.int .i64 0))
  clear c0 c1 c2 c3 cr cr2 hfr hfr2 hfa hfb y0 y1 x1
  obtain ⟨W2, hW2⟩ : ∃ W2, W2 = ((Wb.setCell ⟨ga, f * 2, none⟩ (.bool false)).setCell ⟨ga, f * 2 + 1, none⟩ (.int .i64 0)).drew := ⟨_, rfl⟩
  rw [← hW2] at h2 k3 x0 x2 ⊢
  clear hW2
  go_wp2_with fail
  refine (place h2 1 (by omega)).mono ?_
  rintro e w3 ⟨rfl, hb3⟩
  have h3 := h2.step hb3
  have k3 := k3.below hb3
  have x0 := blk_below x0 hb3
  have x2 := blk_below x2 hb3
  have h4 := h3.setFirst ((f + 1) % most) (lt_mod _ h.m1)
  have k4 : Turn gb ga W (w3.setCell ⟨gb, 1, none⟩ (.int .i64 (((f + 1) % most : Nat) : Int))) := k3.setCell (p := ⟨gb, 1, none⟩) (Or.inl (Or.inl rfl)) _
  have n1 : ¬ gb = B := by omega
  have n2 : ¬ B = gb := by omega
  have n3 : ¬ gb = B + 1 + 1 := by omega
  have n4 : ¬ B + 1 + 1 = gb := by omega
  have v0 : w3.cell? ⟨B, 0, none⟩ = some (.bool false) := blk_cell x0 0
  have v1 : w3.cell? ⟨B, 1, none⟩ = some (.int .i64 0) := blk_cell x0 1
  have v2 : w3.cell? ⟨B + 1 + 1, 0, none⟩ = some (.bool q) := blk_cell x2 0
  have v3 : w3.cell? ⟨B + 1 + 1, 1, none⟩ = some (.int .i64 y) := blk_cell x2 1
  have v4 : w3.frozen? ⟨B, 0, none⟩ = false := blk_frozen x0 0
  have v5 : w3.frozen? ⟨B, 1, none⟩ = false := blk_frozen x0 1
  obtain ⟨c0, c1, c2, c3, hfb, hfa⟩ := h3.cells
  have f1 := hfb 1
  have f2 := hfb 2
  have e1 : wrap64 (((n + 1 : Nat) : Int) - 1) = (n : Int) := by rw [IntWalk.wrap64_in _ (by have := h.nl; have := h.m2; omega)]; omega
  have e3 : wrap64 (n : Int) = (n : Int) := by rw [IntWalk.wrap64_in _ (by have := h.nl; have := h.m2; omega)]
  have e2 : wrap64 ((n : Int) + 1 - 1) = (n : Int) := by rw [IntWalk.wrap64_in _ (by have := h.nl; have := h.m2; omega)]; omega
  go_wp2_with fail
  have h5 := ((h4.setN n (by have := h.nl; omega)).other (p := ⟨B, 0, none⟩) n1 (by show ga ≠ B; omega) (.bool q)).other (p := ⟨B, 1, none⟩) n1 (by show ga ≠ B; omega) (.int .i64 y)
  have hBW := HB.out
  have k5 := ((k4.setCell (p := ⟨gb, 2, none⟩) (Or.inl (Or.inl rfl)) (.int .i64 (n : Int))).setNew (p := ⟨B, 0, none⟩) (by show _ ≤ B; omega) (.bool q)).setNew (p := ⟨B, 1, none⟩) (by show _ ≤ B; omega) (.int .i64 y)
  have x5 := blk_set (blk_set (blk_far (blk_far x0 (p := ⟨gb, 1, none⟩) n2 (.int .i64 (((f + 1) % most : Nat) : Int))) (p := ⟨gb, 2, none⟩) n2 (.int .i64 (n : Int))) 0 (.bool q)) 1 (.int .i64 y)
  push_cast at h5 k5 x5
  obtain ⟨W5, hW5⟩ : ∃ W5, W5 = (((w3.setCell ⟨gb, 1, none⟩ (.int .i64 (((f : Int) + 1) % (most : Int)))).setCell ⟨gb, 2, none⟩ (.int .i64 (n : Int))).setCell ⟨B, 0, none⟩ (.bool q)).setCell ⟨B, 1, none⟩ (.int .i64 y) := ⟨_, rfl⟩
  rw [← hW5] at h5 k5 x5 ⊢
  clear hW5 hBW
  have r0 : W5.cell? ⟨B, 0, none⟩ = some (.bool q) := blk_cell x5 0
  have r1 : W5.cell? ⟨B, 1, none⟩ = some (.int .i64 y) := blk_cell x5 1
  refine bodyPost_ret (by simp [results, Try.results27, go_sem, r0, r1]; try rfl) rfl ?_
  exact ⟨⟨_, _, rfl⟩, h5, k5⟩

set_option maxRecDepth 100000 in
theorem len {W : World} {gb ga most f n lost : Nat} {vs : List (Bool × Int)} (h : Rg W gb ga most vs f n lost) :
    Calls Try.prog 29 #[.pointer (some ⟨gb, 0, none⟩)] W fun e w' => e = .returned (.int .i64 (n : Int)) ∧ Below W.heap.size W w' := by
  obtain ⟨c0, c1, c2, c3, hfb, hfa⟩ := h.cells
  go_enter Try.func29, Try.ntmps29
  go_wp2_with fail
  go_ret
  exact ⟨rfl, Below.refl _ _⟩
set_option maxRecDepth 100000 in
theorem lost {W : World} {gb ga most f n lost : Nat} {vs : List (Bool × Int)} (h : Rg W gb ga most vs f n lost) :
    Calls Try.prog 30 #[.pointer (some ⟨gb, 0, none⟩)] W fun e w' => e = .returned (.int .i64 (lost : Int)) ∧ Below W.heap.size W w' := by
  obtain ⟨c0, c1, c2, c3, hfb, hfa⟩ := h.cells
  go_enter Try.func30, Try.ntmps30
  go_wp2_with fail
  go_ret
  exact ⟨rfl, Below.refl _ _⟩

set_option maxRecDepth 100000 in
theorem new_bad (most : Int) (hm : most < 1 ∨ 64 < most) (W : World) :
    Calls Try.prog 26 #[.int .i64 most] W fun e w' => e = .returned (.tuple #[.pointer none, .int .i64 1]) ∧ w' = W := by
  by_cases h1 : most < 1
  · have t1 : decide (most < 1) = true := by simp; omega
    go_enter Try.func26, Try.ntmps26
    go_wp2_with fail
    go_ret2
    exact ⟨rfl, rfl⟩
  · have t1 : decide (most < 1) = false := by simp; omega
    have t2 : decide (most > 64) = true := by simp; omega
    have t3 : 64 < most := by omega
    go_enter Try.func26, Try.ntmps26
    go_wp2_with fail
    go_ret2
    exact ⟨rfl, rfl⟩
set_option maxRecDepth 100000 in
theorem new_ok (most : Nat) (h1 : 1 ≤ most) (h2 : most ≤ 64) (W : World) :
    Calls Try.prog 26 #[.int .i64 (most : Int)] W fun e w' => ∃ gb ga, e = .returned (.tuple #[.pointer (some ⟨gb, 0, none⟩), .int .i64 0]) ∧ Rg w' gb ga most (List.replicate most ((false, 0) : Bool × Int)) 0 0 0 ∧ W.heap.size ≤ gb ∧ W.heap.size ≤ ga ∧ Below W.heap.size W w' := by
  have t1 : decide ((most : Int) < 1) = false := by simp; omega
  have t2 : decide ((most : Int) > 64) = false := by simp; omega
  have t3 : (most : Int) ≤ 64 := by omega
  have t4 : ¬ ((most : Int) < 1) := by omega
  have hinfo : (Try.prog.info? 29).map (fun i => (i.zero, i.size, i.bytes)) = some (some (Value.agg #[.bool false, .int .i64 0]), 2, 16) := by kernel_rfl
  obtain ⟨i0, hi, hz⟩ := Option.map_eq_some_iff.1 hinfo
  simp only [Prod.mk.injEq] at hz
  obtain ⟨hz0, hz1, hz2⟩ := hz
  have hm := run_make (P := Try.prog) W 22 29 i0 (Value.agg #[.bool false, .int .i64 0]) Try.underlying22 hi hz0 .i64 .i64 (most : Int) (most : Int) (by omega) (by omega) (by rw [hz2]; omega) (by omega)
  have hcs : madeCells ((Value.agg #[.bool false, .int .i64 0])).cells ((most : Int).toNat * i0.size) = (flat (List.replicate most ((false, 0) : Bool × Int))).toArray := by
    rw [hz1, Int.toNat_natCast]
    exact made_flat most
  obtain ⟨arr, harr⟩ : ∃ arr, arr = (flat (List.replicate most ((false, 0) : Bool × Int))).toArray := ⟨_, rfl⟩
  rw [hcs, Int.toNat_natCast, ← harr] at hm
  clear hcs hinfo hi hz0 hz1 hz2 i0
  go_enter Try.func26, Try.ntmps26
  go_wp2_with fail
  go_ret2
  refine ⟨W.heap.size + 1, rfl, W.heap.size, ?_, by omega, by omega, (below_alloc (below_alloc (Below.refl _ _) _) _)⟩
  have n1 := blk_new W (.cells arr 29)
  have n2 := blk_new (W.alloc (.cells arr 29)) (.cells #[.slice (some ⟨W.heap.size, 0, none⟩) most most, .int .i64 0, .int .i64 0, .int .i64 0] 93)
  rw [World.size_alloc] at n2
  have n3 := blk_alloc n1 (.cells #[.slice (some ⟨W.heap.size, 0, none⟩) most most, .int .i64 0, .int .i64 0, .int .i64 0] 93)
  rw [harr] at n2 n3
  exact ⟨n2, n3, by simp, h1, h2, by omega, by omega, by omega⟩
end Go.Proofs.Ytcmofedfbjpjlaa.RingAct

import Derived.RangeFuncNested
import Derived.RangeFuncBound
import Derived.RangeFuncCalls
import Derived.RangeFuncLeaves
import Derived.RangeFuncBox
import Derived.Shelf.Abstract
import Derived.Shelf.RegionOpen
import Derived.WalkKit
import Derived.OwnWalkIn
import Derived.TacticsInMore
import Derived.LoopNIn
import Derived.LoopIn
import Derived.Test.YtcldlfhnmkogeaaUnitTable
/- The units' iterator (unit.all), walked. -/
set_option linter.unusedVariables false
set_option linter.unusedSimpArgs false
namespace Go.Proofs.Ytcldlfhnmkogeaa.Unit
open Go.RowKit Go.Shelf Go.Proofs.YtcldlfhnmkogeaaW.PrintWords Go.Proofs.Ytcldlfhnmkogeaa.Nats Go.Proofs.Ytcldlfhnmkogeaa.HeapKit
attribute [local go_sem] Oper.semAt_some

theorem flat_at : ∀ (l : List URow) (k : Nat) (u : URow), l[k]? = some u → ∀ j v, u.cells[j]? = some v → (l.flatMap URow.cells)[k * 10 + j]? = some v := by
  intro l
  induction l with
  | nil => intro k u h; simp at h
  | cons a l ih =>
    intro k u h j v hv
    have hl : a.cells.length = 10 := rfl
    rw [List.flatMap_cons]
    cases k with
    | zero =>
      simp at h
      subst h
      rw [Nat.zero_mul, Nat.zero_add, List.getElem?_append_left (by rw [hl]; have := (List.getElem?_eq_some_iff.1 hv).1; simpa [URow.cells] using this)]
      exact hv
    | succ k =>
      simp at h
      rw [List.getElem?_append_right (by rw [hl]; omega), hl, show (k + 1) * 10 + j - 10 = k * 10 + j from by omega]
      exact ih k u h j v hv

/-- What a round keeps: what lay below n₀, and every block of cells. -/
def Kp (n₀ : Nat) (A B : World) : Prop := Below n₀ A B ∧ ∀ (k : Nat) (o : Obj), A.heap[k]? = some o → o.isCells = true → B.heap[k]? = some o
theorem Kp.refl (n₀ : Nat) (W : World) : Kp n₀ W W := ⟨Below.refl _ _, fun _ _ h _ => h⟩
theorem Kp.trans {n₀ : Nat} {A B C : World} (h : Kp n₀ A B) (k : Kp n₀ B C) : Kp n₀ A C := ⟨h.1.trans k.1, fun i o ho hc => k.2 i o (h.2 i o ho hc) hc⟩
theorem Kp.book {n₀ : Nat} {w : World} (hn : n₀ ≤ w.heap.size) (W : World) (l : Nat) (o o' : Obj) (hl : w.heap.size ≤ l) (h : W.heap[l]? = some o) (h1 : o.isCells = false) (h2 : o.isWalk = false) : Kp n₀ W (W.putObj l o') :=
  ⟨belowK_b hn W l o o' hl h h1 h2, fun k q hq hc => by
    by_cases e : k = l
    · subst e
      rw [h] at hq
      cases hq
      rw [h1] at hc
      cases hc
    · exact (World.putObj_heap_other e).trans hq⟩

set_option maxRecDepth 100000 in
set_option maxHeartbeats 4000000 in
theorem all1 (m : Nat) (hm : 1 ≤ m) (l n₀ : Nat) (J Jx : List URow → World → Prop)
    (hY : ∀ pre x W, J pre W → pre.length < 25 → YieldAt Fence.wide (m - 1) Try.prog l #[x.val] W fun e W' =>
      (e = .returned (.bool true) ∧ J (pre ++ [x]) W' ∧ Kp n₀ W W') ∨ (e = .returned (.bool false) ∧ Jx (pre ++ [x]) W'))
    (W : World) (hs : n₀ ≤ W.heap.size) (hJw : ∀ pre A B, J pre A → Below A.heap.size A B → J pre B) (h0 : J [] W) :
    CallsIn Fence.wide m Try.prog 92 #[.func (.yield l) #[] #[]] W fun e W' => (∃ v, e = .returned v) ∧
      ((∃ ys, ys = units ∧ J ys W') ∨ (∃ pre, (∃ k, k ≤ 25 ∧ pre = units.take k) ∧ Jx pre W')) := by
  refine callsIn_of_wp Try.func92 rfl trivial ?_ rfl
  simp only [Try.ntmps92, List.size_toArray, List.length_cons, List.length_nil, Nat.reduceAdd, Nat.reduceSub, Array.replicate_succ, Array.replicate_zero, List.push_toArray, List.append_toArray, List.nil_append, List.cons_append]
  gi_wp2_with ((first | refine ⟨trivial, ?_⟩ | skip); gi_at_call 93; refine (callsIn_wide.2 (table_calls _)).mono ?_; rintro e w1 ⟨g, rfl, hg, hb, hB1⟩)
  have hJ1 := hJw _ _ _ h0 hB1
  have hs1 : n₀ ≤ w1.heap.size := Nat.le_trans hs hB1.size
  gi_loopw [6] (fun i wr => ∃ k : Nat, k ≤ 25 ∧ i = .int .i64 k ∧ J (units.take k) wr ∧ wr.heap[g]? = some (.cells (units.flatMap URow.cells).toArray 70 (0, 0)) ∧ n₀ ≤ wr.heap.size)
    (fun i _ => 25 - (intOf i).toNat)
  case atStart => exact ⟨0, Nat.zero_le _, rfl, hJ1, hb, hs1⟩
  case round =>
    obtain ⟨k, hk, rfl, hJs, hgr, hsr⟩ := hrel
    by_cases hlt : k < 25
    · have hlu : units.length = 25 := rfl
      obtain ⟨u, hku⟩ : ∃ u, units[k]? = some u := ⟨units[k]'(by omega), List.getElem?_eq_getElem _⟩
      obtain ⟨nm, e0, e1, e2, e3, fn, fd, on, od, cd⟩ := u
      have c0 : wr.cell? ⟨g, k * 10, none⟩ = some (.string nm) := by
        rw [blk_cell hgr, List.getElem?_toArray]
        exact flat_at units k _ hku 0 _ rfl
      have c1 : wr.cell? ⟨g, k * 10 + 1, none⟩ = some (.int .i64 e0) := by
        rw [blk_cell hgr, List.getElem?_toArray]
        exact flat_at units k _ hku 1 _ rfl
      have c2 : wr.cell? ⟨g, k * 10 + 2, none⟩ = some (.int .i64 e1) := by
        rw [blk_cell hgr, List.getElem?_toArray]
        exact flat_at units k _ hku 2 _ rfl
      have c3 : wr.cell? ⟨g, k * 10 + 3, none⟩ = some (.int .i64 e2) := by
        rw [blk_cell hgr, List.getElem?_toArray]
        exact flat_at units k _ hku 3 _ rfl
      have c4 : wr.cell? ⟨g, k * 10 + 4, none⟩ = some (.int .i64 e3) := by
        rw [blk_cell hgr, List.getElem?_toArray]
        exact flat_at units k _ hku 4 _ rfl
      have c5 : wr.cell? ⟨g, k * 10 + 5, none⟩ = some (.int .i64 fn) := by
        rw [blk_cell hgr, List.getElem?_toArray]
        exact flat_at units k _ hku 5 _ rfl
      have c6 : wr.cell? ⟨g, k * 10 + 6, none⟩ = some (.int .i64 fd) := by
        rw [blk_cell hgr, List.getElem?_toArray]
        exact flat_at units k _ hku 6 _ rfl
      have c7 : wr.cell? ⟨g, k * 10 + 7, none⟩ = some (.int .i64 on) := by
        rw [blk_cell hgr, List.getElem?_toArray]
        exact flat_at units k _ hku 7 _ rfl
      have c8 : wr.cell? ⟨g, k * 10 + 8, none⟩ = some (.int .i64 od) := by
        rw [blk_cell hgr, List.getElem?_toArray]
        exact flat_at units k _ hku 8 _ rfl
      have c9 : wr.cell? ⟨g, k * 10 + 9, none⟩ = some (.int .i64 cd) := by
        rw [blk_cell hgr, List.getElem?_toArray]
        exact flat_at units k _ hku 9 _ rfl
      have hU : (URow.mk nm e0 e1 e2 e3 fn fd on od cd).val = .agg #[.string nm, .int .i64 e0, .int .i64 e1, .int .i64 e2, .int .i64 e3, .int .i64 fn, .int .i64 fd, .int .i64 on, .int .i64 od, .int .i64 cd] := rfl
      have hbx := below_alloc (Below.refl wr.heap.size wr) (.cells #[.string nm, .int .i64 e0, .int .i64 e1, .int .i64 e2, .int .i64 e3, .int .i64 fn, .int .i64 fd, .int .i64 on, .int .i64 od, .int .i64 cd] 70)
      obtain ⟨fnn, tmps, assign, body, hy, hRy⟩ := hY _ ⟨nm, e0, e1, e2, e3, fn, fd, on, od, cd⟩ (wr.alloc (.cells #[.string nm, .int .i64 e0, .int .i64 e1, .int .i64 e2, .int .i64 e3, .int .i64 fn, .int .i64 fd, .int .i64 on, .int .i64 od, .int .i64 cd] 70)) (hJw _ _ _ hJs hbx) (by rw [List.length_take]; omega)
      rw [hU] at hy
      have bx := blk_new wr (.cells #[.string nm, .int .i64 e0, .int .i64 e1, .int .i64 e2, .int .i64 e3, .int .i64 fn, .int .i64 fd, .int .i64 on, .int .i64 od, .int .i64 cd] 70)
      have x0 : (wr.alloc (.cells #[.string nm, .int .i64 e0, .int .i64 e1, .int .i64 e2, .int .i64 e3, .int .i64 fn, .int .i64 fd, .int .i64 on, .int .i64 od, .int .i64 cd] 70)).cell? ⟨wr.heap.size, 0, none⟩ = some (.string nm) := blk_cell bx 0
      have x1 : (wr.alloc (.cells #[.string nm, .int .i64 e0, .int .i64 e1, .int .i64 e2, .int .i64 e3, .int .i64 fn, .int .i64 fd, .int .i64 on, .int .i64 od, .int .i64 cd] 70)).cell? ⟨wr.heap.size, 1, none⟩ = some (.int .i64 e0) := blk_cell bx 1
      have x2 : (wr.alloc (.cells #[.string nm, .int .i64 e0, .int .i64 e1, .int .i64 e2, .int .i64 e3, .int .i64 fn, .int .i64 fd, .int .i64 on, .int .i64 od, .int .i64 cd] 70)).cell? ⟨wr.heap.size, 2, none⟩ = some (.int .i64 e1) := blk_cell bx 2
      have x3 : (wr.alloc (.cells #[.string nm, .int .i64 e0, .int .i64 e1, .int .i64 e2, .int .i64 e3, .int .i64 fn, .int .i64 fd, .int .i64 on, .int .i64 od, .int .i64 cd] 70)).cell? ⟨wr.heap.size, 3, none⟩ = some (.int .i64 e2) := blk_cell bx 3
      have x4 : (wr.alloc (.cells #[.string nm, .int .i64 e0, .int .i64 e1, .int .i64 e2, .int .i64 e3, .int .i64 fn, .int .i64 fd, .int .i64 on, .int .i64 od, .int .i64 cd] 70)).cell? ⟨wr.heap.size, 4, none⟩ = some (.int .i64 e3) := blk_cell bx 4
      have x5 : (wr.alloc (.cells #[.string nm, .int .i64 e0, .int .i64 e1, .int .i64 e2, .int .i64 e3, .int .i64 fn, .int .i64 fd, .int .i64 on, .int .i64 od, .int .i64 cd] 70)).cell? ⟨wr.heap.size, 5, none⟩ = some (.int .i64 fn) := blk_cell bx 5
      have x6 : (wr.alloc (.cells #[.string nm, .int .i64 e0, .int .i64 e1, .int .i64 e2, .int .i64 e3, .int .i64 fn, .int .i64 fd, .int .i64 on, .int .i64 od, .int .i64 cd] 70)).cell? ⟨wr.heap.size, 6, none⟩ = some (.int .i64 fd) := blk_cell bx 6
      have x7 : (wr.alloc (.cells #[.string nm, .int .i64 e0, .int .i64 e1, .int .i64 e2, .int .i64 e3, .int .i64 fn, .int .i64 fd, .int .i64 on, .int .i64 od, .int .i64 cd] 70)).cell? ⟨wr.heap.size, 7, none⟩ = some (.int .i64 on) := blk_cell bx 7
      have x8 : (wr.alloc (.cells #[.string nm, .int .i64 e0, .int .i64 e1, .int .i64 e2, .int .i64 e3, .int .i64 fn, .int .i64 fd, .int .i64 on, .int .i64 od, .int .i64 cd] 70)).cell? ⟨wr.heap.size, 8, none⟩ = some (.int .i64 od) := blk_cell bx 8
      have x9 : (wr.alloc (.cells #[.string nm, .int .i64 e0, .int .i64 e1, .int .i64 e2, .int .i64 e3, .int .i64 fn, .int .i64 fd, .int .i64 on, .int .i64 od, .int .i64 cd] 70)).cell? ⟨wr.heap.size, 9, none⟩ = some (.int .i64 cd) := blk_cell bx 9
      gi_wp2_with (first
        | (refine hRy.mono ?_; rintro e W3 hcase; obtain ⟨bb, rfl, hc⟩ : ∃ bb, e = .returned (.bool bb) ∧ (bb = true ∧ J (units.take k ++ [⟨nm, e0, e1, e2, e3, fn, fd, on, od, cd⟩]) W3 ∧ Kp n₀ (wr.alloc (.cells #[.string nm, .int .i64 e0, .int .i64 e1, .int .i64 e2, .int .i64 e3, .int .i64 fn, .int .i64 fd, .int .i64 on, .int .i64 od, .int .i64 cd] 70)) W3 ∨ bb = false ∧ Jx (units.take k ++ [⟨nm, e0, e1, e2, e3, fn, fd, on, od, cd⟩]) W3) := (by rcases hcase with ⟨h1, h2, h3⟩ | ⟨h1, h2⟩; exact ⟨true, h1, Or.inl ⟨rfl, h2, h3⟩⟩; exact ⟨false, h1, Or.inr ⟨rfl, h2⟩⟩))
        | fail)
      all_goals rename_i hbb
      all_goals have hw1 : units.take k ++ [⟨nm, e0, e1, e2, e3, fn, fd, on, od, cd⟩] = units.take (k + 1) := by rw [List.take_add_one, hku]; rfl
      all_goals clear hcase
      all_goals first
        | (have hb1 : bb = false := by simpa using hbb
           have hJx3 := hc.elim (fun h => absurd h.1 (by rw [hb1]; simp)) (fun h => h.2)
           rw [hw1] at hJx3
           refine bodyPost_ret (results_none rfl _ _ _) rfl ?_
           exact ⟨⟨_, rfl⟩, .inr ⟨_, ⟨k + 1, by omega, rfl⟩, hJx3⟩⟩)
        | (have hb1 : bb = true := by simpa using hbb
           have h3 := hc.elim (fun h => h.2) (fun h => absurd h.1 (by rw [hb1]; simp))
           have hJ3 := h3.1
           rw [hw1] at hJ3
           refine ⟨⟨k + 1, by omega, by simp, hJ3, h3.2.2 _ _ (blk_alloc hgr _) rfl, Nat.le_trans hsr (Nat.le_trans hbx.size h3.2.1.size)⟩, ?_⟩
           simp [intOf]
           omega)
    · obtain rfl : k = 25 := by omega
      gi_wp2
      go_end0
      exact ⟨⟨_, rfl⟩, .inl ⟨_, rfl, hJs⟩⟩
end Go.Proofs.Ytcldlfhnmkogeaa.Unit

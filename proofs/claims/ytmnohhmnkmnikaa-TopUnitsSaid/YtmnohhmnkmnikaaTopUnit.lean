import Derived.Test.YtmnohhmnkmnikaaHeapKit
import Derived.RangeFuncNested
import Derived.RangeFuncBound
import Derived.RangeFuncCalls
import Derived.RangeFuncLeaves
import Derived.RangeFuncBox
import Derived.Shelf.Abstract
import Derived.Shelf.RegionOpen
import Derived.WalkKit
import Derived.OwnWalkIn
import Derived.TacticsInMore
import Derived.LoopNIn
import Derived.LoopIn
import Derived.Test.YtmnohhmnkmnikaaTopRat
import Derived.DeepKeys
import Derived.Test.YtmnohhmnkmnikaaPOfx1
/- The units' table (unit.table), walked. -/
set_option linter.unusedVariables false
set_option linter.unusedSimpArgs false
namespace Go.Proofs.Ytmnohhmnkmnikaa.Unit
open Go.RowKit Go.Proofs.YtmnohhmnkmnikaaW.PrintWords Go.Proofs.YtmnohhmnkmnikaaW.PrintLast Go.Proofs.Ytmnohhmnkmnikaa.Nats Go.Proofs.Ytmnohhmnkmnikaa.HeapKit

/-- A unit, as the program has it. -/
structure URow where
  name : ByteArray
  d0 : Int
  d1 : Int
  d2 : Int
  d3 : Int
  fn : Int
  fd : Int
  on : Int
  od : Int
  code : Int
/-- Its cells. -/
def URow.cells (u : URow) : List Value := [.string u.name, .int .i64 u.d0, .int .i64 u.d1, .int .i64 u.d2, .int .i64 u.d3, .int .i64 u.fn, .int .i64 u.fd, .int .i64 u.on, .int .i64 u.od, .int .i64 u.code]
def URow.val (u : URow) : Value := .agg #[.string u.name, .int .i64 u.d0, .int .i64 u.d1, .int .i64 u.d2, .int .i64 u.d3, .int .i64 u.fn, .int .i64 u.fd, .int .i64 u.on, .int .i64 u.od, .int .i64 u.code]
/-- All units. -/
def units : List URow := [
  ⟨⟨#[111, 110, 101]⟩, 0, 0, 0, 0, 1, 1, 0, 1, 512⟩,
  ⟨⟨#[112, 99, 116]⟩, 0, 0, 0, 0, 1, 100, 0, 1, 544⟩,
  ⟨⟨#[107, 103]⟩, 1, 0, 0, 0, 1, 1, 0, 1, 1731⟩,
  ⟨⟨#[103]⟩, 1, 0, 0, 0, 1, 1000, 0, 1, 1728⟩,
  ⟨⟨#[108, 98]⟩, 1, 0, 0, 0, 45359237, 100000000, 0, 1, 1760⟩,
  ⟨⟨#[109]⟩, 0, 1, 0, 0, 1, 1, 0, 1, 1280⟩,
  ⟨⟨#[99, 109]⟩, 0, 1, 0, 0, 1, 100, 0, 1, 1297⟩,
  ⟨⟨#[109, 109]⟩, 0, 1, 0, 0, 1, 1000, 0, 1, 1298⟩,
  ⟨⟨#[105, 110]⟩, 0, 1, 0, 0, 127, 5000, 0, 1, 1376⟩,
  ⟨⟨#[115]⟩, 0, 0, 1, 0, 1, 1, 0, 1, 2176⟩,
  ⟨⟨#[109, 105, 110]⟩, 0, 0, 1, 0, 60, 1, 0, 1, 2208⟩,
  ⟨⟨#[104]⟩, 0, 0, 1, 0, 3600, 1, 0, 1, 2240⟩,
  ⟨⟨#[107]⟩, 0, 0, 0, 1, 1, 1, 0, 1, 3520⟩,
  ⟨⟨#[99]⟩, 0, 0, 0, 1, 1, 1, 5463, 20, 6048⟩,
  ⟨⟨#[102]⟩, 0, 0, 0, 1, 5, 9, 45967, 180, 4416⟩,
  ⟨⟨#[112, 97]⟩, 1, (-1), (-2), 0, 1, 1, 0, 1, 3840⟩,
  ⟨⟨#[107, 112, 97]⟩, 1, (-1), (-2), 0, 1000, 1, 0, 1, 3843⟩,
  ⟨⟨#[109, 109, 104, 103]⟩, 1, (-1), (-2), 0, 20265, 152, 0, 1, 3872⟩,
  ⟨⟨#[99, 109, 104, 111]⟩, 1, (-1), (-2), 0, 196133, 2000, 0, 1, 3904⟩,
  ⟨⟨#[108]⟩, 0, 3, 0, 0, 1, 1000, 0, 1, 1600⟩,
  ⟨⟨#[109, 108]⟩, 0, 3, 0, 0, 1, 1000000, 0, 1, 1618⟩,
  ⟨⟨#[108, 112, 109]⟩, 0, 3, (-1), 0, 1, 60000, 0, 1, 3072⟩,
  ⟨⟨#[109, 108, 104]⟩, 0, 3, (-1), 0, 1, 3600000000, 0, 1, 3122⟩,
  ⟨⟨#[98, 112, 109]⟩, 0, 0, (-1), 0, 1, 60, 0, 1, 2720⟩,
  ⟨⟨#[104, 122]⟩, 0, 0, (-1), 0, 1, 1, 0, 1, 2496⟩]

set_option maxRecDepth 100000 in
set_option maxHeartbeats 4000000 in
theorem row_calls (s : ByteArray) (d0 d1 d2 d3 f g o p c : Int) (w : World) :
    Calls Try.prog 93 #[.string s, .agg #[.int .i64 d0, .int .i64 d1, .int .i64 d2, .int .i64 d3], .int .i64 f, .int .i64 g, .int .i64 o, .int .i64 p, .int .i64 c] w fun e w' => e = .returned (.agg #[.string s, .int .i64 d0, .int .i64 d1, .int .i64 d2, .int .i64 d3, .int .i64 f, .int .i64 g, .int .i64 o, .int .i64 p, .int .i64 c]) ∧ Below w.heap.size w w' := by
  have hR := b2_start w (.cells #[.int .i64 d0, .int .i64 d1, .int .i64 d2, .int .i64 d3] 98) (.cells #[.string s, .int .i64 d0, .int .i64 d1, .int .i64 d2, .int .i64 d3, .int .i64 f, .int .i64 g, .int .i64 o, .int .i64 p, .int .i64 c] 100)
  go_enter Try.func93, Try.ntmps93
  go_wp2_with fail
  obtain ⟨w_, hw_⟩ : ∃ w_, w_ = ((w.alloc (.cells #[.int .i64 d0, .int .i64 d1, .int .i64 d2, .int .i64 d3] 98)).alloc (.cells #[.string s, .int .i64 d0, .int .i64 d1, .int .i64 d2, .int .i64 d3, .int .i64 f, .int .i64 g, .int .i64 o, .int .i64 p, .int .i64 c] 100)) := ⟨_, rfl⟩
  rw [← hw_] at hR
  try rw [← hw_]
  clear hw_
  have s0 : w_.cell? ⟨w.heap.size + 1, 0, none⟩ = some (.string s) := blk_cell hR.b2 0
  have s1 : w_.cell? ⟨w.heap.size + 1, 1, none⟩ = some (.int .i64 d0) := blk_cell hR.b2 1
  have s2 : w_.cell? ⟨w.heap.size + 1, 2, none⟩ = some (.int .i64 d1) := blk_cell hR.b2 2
  have s3 : w_.cell? ⟨w.heap.size + 1, 3, none⟩ = some (.int .i64 d2) := blk_cell hR.b2 3
  have s4 : w_.cell? ⟨w.heap.size + 1, 4, none⟩ = some (.int .i64 d3) := blk_cell hR.b2 4
  have s5 : w_.cell? ⟨w.heap.size + 1, 5, none⟩ = some (.int .i64 f) := blk_cell hR.b2 5
  have s6 : w_.cell? ⟨w.heap.size + 1, 6, none⟩ = some (.int .i64 g) := blk_cell hR.b2 6
  have s7 : w_.cell? ⟨w.heap.size + 1, 7, none⟩ = some (.int .i64 o) := blk_cell hR.b2 7
  have s8 : w_.cell? ⟨w.heap.size + 1, 8, none⟩ = some (.int .i64 p) := blk_cell hR.b2 8
  have s9 : w_.cell? ⟨w.heap.size + 1, 9, none⟩ = some (.int .i64 c) := blk_cell hR.b2 9
  refine bodyPost_ret (by simp [results, Try.results93, go_sem, s0, s1, s2, s3, s4, s5, s6, s7, s8, s9]; try rfl) rfl ?_
  exact ⟨rfl, hR.be⟩

section
variable {P : Program} {ops : Array Oper} {rest : List Oper} {o : Oper} {a : Act} {Q : Exit → Act → World → Prop}
theorem lit_event {W : World} (hgd : o.guard = none) {N : Tmp} (_hd : o.dst = some N) {cs : Array Value} {t : TypeId} {n : Nat}
    (hrun : (execOp a.eval o).run P W = .ok (.value (.slice (some ⟨W.heap.size, 0, none⟩) n n)) (W.alloc (.cells cs t (0, 0))))
    (h : ∀ g, g = W.heap.size → ∀ w1, w1.heap[g]? = some (.cells cs t (0, 0)) → Below W.heap.size W w1 → wpList P ops Q rest (a.put o.dst (.slice (some ⟨g, 0, none⟩) n n)) w1) : wpList P ops Q (o :: rest) a W :=
  Kd.event_run hgd hrun (h _ rfl _ (blk_new W _) (below_alloc (Below.refl _ _) _))
end
set_option maxRecDepth 100000 in
set_option maxHeartbeats 16000000 in
theorem table_calls (w : World) :
    Calls Try.prog 79 #[] w fun e w' => ∃ g, e = .returned (.slice (some ⟨g, 0, none⟩) 25 25) ∧ w.heap.size ≤ g ∧ w'.heap[g]? = some (.cells (units.flatMap URow.cells).toArray 100 (0, 0)) ∧ Below w.heap.size w w' := by
  go_enter Try.func79, Try.ntmps79
  have hB := Below.refl w.heap.size w
  go_wp2_with fail
  refine (row_calls _ _ _ _ _ _ _ _ _ _ _).mono ?_
  rintro e w0 ⟨rfl, hb⟩
  replace hB := bthen hB hb
  clear hb
  go_wp2_with fail
  refine (row_calls _ _ _ _ _ _ _ _ _ _ _).mono ?_
  rintro e w1 ⟨rfl, hb⟩
  replace hB := bthen hB hb
  clear hb
  go_wp2_with fail
  refine (row_calls _ _ _ _ _ _ _ _ _ _ _).mono ?_
  rintro e w2 ⟨rfl, hb⟩
  replace hB := bthen hB hb
  clear hb
  go_wp2_with fail
  refine (row_calls _ _ _ _ _ _ _ _ _ _ _).mono ?_
  rintro e w3 ⟨rfl, hb⟩
  replace hB := bthen hB hb
  clear hb
  go_wp2_with fail
  refine (row_calls _ _ _ _ _ _ _ _ _ _ _).mono ?_
  rintro e w4 ⟨rfl, hb⟩
  replace hB := bthen hB hb
  clear hb
  go_wp2_with fail
  refine (row_calls _ _ _ _ _ _ _ _ _ _ _).mono ?_
  rintro e w5 ⟨rfl, hb⟩
  replace hB := bthen hB hb
  clear hb
  go_wp2_with fail
  refine (row_calls _ _ _ _ _ _ _ _ _ _ _).mono ?_
  rintro e w6 ⟨rfl, hb⟩
  replace hB := bthen hB hb
  clear hb
  go_wp2_with fail
  refine (row_calls _ _ _ _ _ _ _ _ _ _ _).mono ?_
  rintro e w7 ⟨rfl, hb⟩
  replace hB := bthen hB hb
  clear hb
  go_wp2_with fail
  refine (row_calls _ _ _ _ _ _ _ _ _ _ _).mono ?_
  rintro e w8 ⟨rfl, hb⟩
  replace hB := bthen hB hb
  clear hb
  go_wp2_with fail
  refine (row_calls _ _ _ _ _ _ _ _ _ _ _).mono ?_
  rintro e w9 ⟨rfl, hb⟩
  replace hB := bthen hB hb
  clear hb
  go_wp2_with fail
  refine (row_calls _ _ _ _ _ _ _ _ _ _ _).mono ?_
  rintro e w10 ⟨rfl, hb⟩
  replace hB := bthen hB hb
  clear hb
  go_wp2_with fail
  refine (row_calls _ _ _ _ _ _ _ _ _ _ _).mono ?_
  rintro e w11 ⟨rfl, hb⟩
  replace hB := bthen hB hb
  clear hb
  go_wp2_with fail
  refine (row_calls _ _ _ _ _ _ _ _ _ _ _).mono ?_
  rintro e w12 ⟨rfl, hb⟩
  replace hB := bthen hB hb
  clear hb
  go_wp2_with fail
  refine (row_calls _ _ _ _ _ _ _ _ _ _ _).mono ?_
  rintro e w13 ⟨rfl, hb⟩
  replace hB := bthen hB hb
  clear hb
  go_wp2_with fail
  refine (row_calls _ _ _ _ _ _ _ _ _ _ _).mono ?_
  rintro e w14 ⟨rfl, hb⟩
  replace hB := bthen hB hb
  clear hb
  go_wp2_with fail
  refine (row_calls _ _ _ _ _ _ _ _ _ _ _).mono ?_
  rintro e w15 ⟨rfl, hb⟩
  replace hB := bthen hB hb
  clear hb
  go_wp2_with fail
  refine (row_calls _ _ _ _ _ _ _ _ _ _ _).mono ?_
  rintro e w16 ⟨rfl, hb⟩
  replace hB := bthen hB hb
  clear hb
  go_wp2_with fail
  refine (row_calls _ _ _ _ _ _ _ _ _ _ _).mono ?_
  rintro e w17 ⟨rfl, hb⟩
  replace hB := bthen hB hb
  clear hb
  go_wp2_with fail
  refine (row_calls _ _ _ _ _ _ _ _ _ _ _).mono ?_
  rintro e w18 ⟨rfl, hb⟩
  replace hB := bthen hB hb
  clear hb
  go_wp2_with fail
  refine (row_calls _ _ _ _ _ _ _ _ _ _ _).mono ?_
  rintro e w19 ⟨rfl, hb⟩
  replace hB := bthen hB hb
  clear hb
  go_wp2_with fail
  refine (row_calls _ _ _ _ _ _ _ _ _ _ _).mono ?_
  rintro e w20 ⟨rfl, hb⟩
  replace hB := bthen hB hb
  clear hb
  go_wp2_with fail
  refine (row_calls _ _ _ _ _ _ _ _ _ _ _).mono ?_
  rintro e w21 ⟨rfl, hb⟩
  replace hB := bthen hB hb
  clear hb
  go_wp2_with fail
  refine (row_calls _ _ _ _ _ _ _ _ _ _ _).mono ?_
  rintro e w22 ⟨rfl, hb⟩
  replace hB := bthen hB hb
  clear hb
  go_wp2_with fail
  refine (row_calls _ _ _ _ _ _ _ _ _ _ _).mono ?_
  rintro e w23 ⟨rfl, hb⟩
  replace hB := bthen hB hb
  clear hb
  go_wp2_with fail
  refine (row_calls _ _ _ _ _ _ _ _ _ _ _).mono ?_
  rintro e w24 ⟨rfl, hb⟩
  replace hB := bthen hB hb
  clear hb
  go_wp2_with (first | ((with_reducible refine gate_dst (N := 51) rfl ?_); refine lit_event ?hg (N := 51) ?hd (cs := (units.flatMap URow.cells).toArray) (t := 100) (n := 25) ?hr ?_; (case hd => rfl); (case hg => rfl); (case hr => kernel_rfl); intro g hg w26 hb26 hB26) | fail)
  go_ret
  subst hg
  exact ⟨w24.heap.size, rfl, hB.size, hb26, bthen hB hB26⟩
end Go.Proofs.Ytmnohhmnkmnikaa.Unit

/- The units' iterator (unit.all), walked. -/
set_option linter.unusedVariables false
set_option linter.unusedSimpArgs false
namespace Go.Proofs.Ytmnohhmnkmnikaa.Unit
open Go.RowKit Go.Shelf Go.Proofs.YtmnohhmnkmnikaaW.PrintWords Go.Proofs.Ytmnohhmnkmnikaa.Nats Go.Proofs.Ytmnohhmnkmnikaa.HeapKit
attribute [local go_sem] Oper.semAt_some

theorem flat_at : ∀ (l : List URow) (k : Nat) (u : URow), l[k]? = some u → ∀ j v, u.cells[j]? = some v → (l.flatMap URow.cells)[k * 10 + j]? = some v := by
  intro l
  induction l with
  | nil => intro k u h; simp at h
  | cons a l ih =>
    intro k u h j v hv
    have hl : a.cells.length = 10 := rfl
    rw [List.flatMap_cons]
    cases k with
    | zero =>
      simp at h
      subst h
      rw [Nat.zero_mul, Nat.zero_add, List.getElem?_append_left (by rw [hl]; have := (List.getElem?_eq_some_iff.1 hv).1; simpa [URow.cells] using this)]
      exact hv
    | succ k =>
      simp at h
      rw [List.getElem?_append_right (by rw [hl]; omega), hl, show (k + 1) * 10 + j - 10 = k * 10 + j from by omega]
      exact ih k u h j v hv

/-- What a round keeps: what lay below n₀, and every block of units. -/
def isU : Obj → Bool
  | .cells _ t _ => t == 100
  | _ => false
theorem isU_cells {o : Obj} (h : o.isCells = false) : isU o = false := by
  cases o with
  | cells => cases h
  | _ => rfl
def Kp (n₀ : Nat) (A B : World) : Prop := Below n₀ A B ∧ ∀ (k : Nat) (o : Obj), A.heap[k]? = some o → isU o = true → B.heap[k]? = some o
theorem Kp.refl (n₀ : Nat) (W : World) : Kp n₀ W W := ⟨Below.refl _ _, fun _ _ h _ => h⟩
theorem Kp.trans {n₀ : Nat} {A B C : World} (h : Kp n₀ A B) (k : Kp n₀ B C) : Kp n₀ A C := ⟨h.1.trans k.1, fun i o ho hc => k.2 i o (h.2 i o ho hc) hc⟩
theorem Kp.book {n₀ : Nat} {w : World} (hn : n₀ ≤ w.heap.size) (W : World) (l : Nat) (o o' : Obj) (hl : w.heap.size ≤ l) (h : W.heap[l]? = some o) (h1 : o.isCells = false) (h2 : o.isWalk = false) : Kp n₀ W (W.putObj l o') :=
  ⟨belowK_b hn W l o o' hl h h1 h2, fun k q hq hc => by
    by_cases e : k = l
    · subst e
      rw [h] at hq
      cases hq
      rw [isU_cells h1] at hc
      cases hc
    · exact (World.putObj_heap_other e).trans hq⟩

set_option maxRecDepth 100000 in
set_option maxHeartbeats 4000000 in
theorem all1 (m : Nat) (hm : 1 ≤ m) (l n₀ : Nat) (J Jx : List URow → World → Prop)
    (hY : ∀ pre x W, J pre W → pre.length < 25 → YieldAt Fence.wide (m - 1) Try.prog l #[x.val] W fun e W' =>
      (e = .returned (.bool true) ∧ J (pre ++ [x]) W' ∧ Kp n₀ W W') ∨ (e = .returned (.bool false) ∧ Jx (pre ++ [x]) W'))
    (W : World) (hs : n₀ ≤ W.heap.size) (hJw : ∀ pre A B, J pre A → Below A.heap.size A B → J pre B) (h0 : J [] W) :
    CallsIn Fence.wide m Try.prog 78 #[.func (.yield l) #[] #[]] W fun e W' => (∃ v, e = .returned v) ∧
      ((∃ ys, ys = units ∧ J ys W') ∨ (∃ pre, (∃ k, k ≤ 25 ∧ pre = units.take k) ∧ Jx pre W')) := by
  refine callsIn_of_wp Try.func78 rfl trivial ?_ rfl
  simp only [Try.ntmps78, List.size_toArray, List.length_cons, List.length_nil, Nat.reduceAdd, Nat.reduceSub, Array.replicate_succ, Array.replicate_zero, List.push_toArray, List.append_toArray, List.nil_append, List.cons_append]
  gi_wp2_with ((first | refine ⟨trivial, ?_⟩ | skip); gi_at_call 79; refine (callsIn_wide.2 (table_calls _)).mono ?_; rintro e w1 ⟨g, rfl, hg, hb, hB1⟩)
  have hJ1 := hJw _ _ _ h0 hB1
  have hs1 : n₀ ≤ w1.heap.size := Nat.le_trans hs hB1.size
  gi_loopw [6] (fun i wr => ∃ k : Nat, k ≤ 25 ∧ i = .int .i64 k ∧ J (units.take k) wr ∧ wr.heap[g]? = some (.cells (units.flatMap URow.cells).toArray 100 (0, 0)) ∧ n₀ ≤ wr.heap.size)
    (fun i _ => 25 - (intOf i).toNat)
  case atStart => exact ⟨0, Nat.zero_le _, rfl, hJ1, hb, hs1⟩
  case round =>
    obtain ⟨k, hk, rfl, hJs, hgr, hsr⟩ := hrel
    by_cases hlt : k < 25
    · have hlu : units.length = 25 := rfl
      obtain ⟨u, hku⟩ : ∃ u, units[k]? = some u := ⟨units[k]'(by omega), List.getElem?_eq_getElem _⟩
      obtain ⟨nm, e0, e1, e2, e3, fn, fd, on, od, cd⟩ := u
      have c0 : wr.cell? ⟨g, k * 10, none⟩ = some (.string nm) := by
        rw [blk_cell hgr, List.getElem?_toArray]
        exact flat_at units k _ hku 0 _ rfl
      have c1 : wr.cell? ⟨g, k * 10 + 1, none⟩ = some (.int .i64 e0) := by
        rw [blk_cell hgr, List.getElem?_toArray]
        exact flat_at units k _ hku 1 _ rfl
      have c2 : wr.cell? ⟨g, k * 10 + 2, none⟩ = some (.int .i64 e1) := by
        rw [blk_cell hgr, List.getElem?_toArray]
        exact flat_at units k _ hku 2 _ rfl
      have c3 : wr.cell? ⟨g, k * 10 + 3, none⟩ = some (.int .i64 e2) := by
        rw [blk_cell hgr, List.getElem?_toArray]
        exact flat_at units k _ hku 3 _ rfl
      have c4 : wr.cell? ⟨g, k * 10 + 4, none⟩ = some (.int .i64 e3) := by
        rw [blk_cell hgr, List.getElem?_toArray]
        exact flat_at units k _ hku 4 _ rfl
      have c5 : wr.cell? ⟨g, k * 10 + 5, none⟩ = some (.int .i64 fn) := by
        rw [blk_cell hgr, List.getElem?_toArray]
        exact flat_at units k _ hku 5 _ rfl
      have c6 : wr.cell? ⟨g, k * 10 + 6, none⟩ = some (.int .i64 fd) := by
        rw [blk_cell hgr, List.getElem?_toArray]
        exact flat_at units k _ hku 6 _ rfl
      have c7 : wr.cell? ⟨g, k * 10 + 7, none⟩ = some (.int .i64 on) := by
        rw [blk_cell hgr, List.getElem?_toArray]
        exact flat_at units k _ hku 7 _ rfl
      have c8 : wr.cell? ⟨g, k * 10 + 8, none⟩ = some (.int .i64 od) := by
        rw [blk_cell hgr, List.getElem?_toArray]
        exact flat_at units k _ hku 8 _ rfl
      have c9 : wr.cell? ⟨g, k * 10 + 9, none⟩ = some (.int .i64 cd) := by
        rw [blk_cell hgr, List.getElem?_toArray]
        exact flat_at units k _ hku 9 _ rfl
      have hU : (URow.mk nm e0 e1 e2 e3 fn fd on od cd).val = .agg #[.string nm, .int .i64 e0, .int .i64 e1, .int .i64 e2, .int .i64 e3, .int .i64 fn, .int .i64 fd, .int .i64 on, .int .i64 od, .int .i64 cd] := rfl
      have hbx := below_alloc (Below.refl wr.heap.size wr) (.cells #[.string nm, .int .i64 e0, .int .i64 e1, .int .i64 e2, .int .i64 e3, .int .i64 fn, .int .i64 fd, .int .i64 on, .int .i64 od, .int .i64 cd] 100)
      obtain ⟨fnn, tmps, assign, body, hy, hRy⟩ := hY _ ⟨nm, e0, e1, e2, e3, fn, fd, on, od, cd⟩ (wr.alloc (.cells #[.string nm, .int .i64 e0, .int .i64 e1, .int .i64 e2, .int .i64 e3, .int .i64 fn, .int .i64 fd, .int .i64 on, .int .i64 od, .int .i64 cd] 100)) (hJw _ _ _ hJs hbx) (by rw [List.length_take]; omega)
      rw [hU] at hy
      have bx := blk_new wr (.cells #[.string nm, .int .i64 e0, .int .i64 e1, .int .i64 e2, .int .i64 e3, .int .i64 fn, .int .i64 fd, .int .i64 on, .int .i64 od, .int .i64 cd] 100)
      have x0 : (wr.alloc (.cells #[.string nm, .int .i64 e0, .int .i64 e1, .int .i64 e2, .int .i64 e3, .int .i64 fn, .int .i64 fd, .int .i64 on, .int .i64 od, .int .i64 cd] 100)).cell? ⟨wr.heap.size, 0, none⟩ = some (.string nm) := blk_cell bx 0
      have x1 : (wr.alloc (.cells #[.string nm, .int .i64 e0, .int .i64 e1, .int .i64 e2, .int .i64 e3, .int .i64 fn, .int .i64 fd, .int .i64 on, .int .i64 od, .int .i64 cd] 100)).cell? ⟨wr.heap.size, 1, none⟩ = some (.int .i64 e0) := blk_cell bx 1
      have x2 : (wr.alloc (.cells #[.string nm, .int .i64 e0, .int .i64 e1, .int .i64 e2, .int .i64 e3, .int .i64 fn, .int .i64 fd, .int .i64 on, .int .i64 od, .int .i64 cd] 100)).cell? ⟨wr.heap.size, 2, none⟩ = some (.int .i64 e1) := blk_cell bx 2
      have x3 : (wr.alloc (.cells #[.string nm, .int .i64 e0, .int .i64 e1, .int .i64 e2, .int .i64 e3, .int .i64 fn, .int .i64 fd, .int .i64 on, .int .i64 od, .int .i64 cd] 100)).cell? ⟨wr.heap.size, 3, none⟩ = some (.int .i64 e2) := blk_cell bx 3
      have x4 : (wr.alloc (.cells #[.string nm, .int .i64 e0, .int .i64 e1, .int .i64 e2, .int .i64 e3, .int .i64 fn, .int .i64 fd, .int .i64 on, .int .i64 od, .int .i64 cd] 100)).cell? ⟨wr.heap.size, 4, none⟩ = some (.int .i64 e3) := blk_cell bx 4
      have x5 : (wr.alloc (.cells #[.string nm, .int .i64 e0, .int .i64 e1, .int .i64 e2, .int .i64 e3, .int .i64 fn, .int .i64 fd, .int .i64 on, .int .i64 od, .int .i64 cd] 100)).cell? ⟨wr.heap.size, 5, none⟩ = some (.int .i64 fn) := blk_cell bx 5
      have x6 : (wr.alloc (.cells #[.string nm, .int .i64 e0, .int .i64 e1, .int .i64 e2, .int .i64 e3, .int .i64 fn, .int .i64 fd, .int .i64 on, .int .i64 od, .int .i64 cd] 100)).cell? ⟨wr.heap.size, 6, none⟩ = some (.int .i64 fd) := blk_cell bx 6
      have x7 : (wr.alloc (.cells #[.string nm, .int .i64 e0, .int .i64 e1, .int .i64 e2, .int .i64 e3, .int .i64 fn, .int .i64 fd, .int .i64 on, .int .i64 od, .int .i64 cd] 100)).cell? ⟨wr.heap.size, 7, none⟩ = some (.int .i64 on) := blk_cell bx 7
      have x8 : (wr.alloc (.cells #[.string nm, .int .i64 e0, .int .i64 e1, .int .i64 e2, .int .i64 e3, .int .i64 fn, .int .i64 fd, .int .i64 on, .int .i64 od, .int .i64 cd] 100)).cell? ⟨wr.heap.size, 8, none⟩ = some (.int .i64 od) := blk_cell bx 8
      have x9 : (wr.alloc (.cells #[.string nm, .int .i64 e0, .int .i64 e1, .int .i64 e2, .int .i64 e3, .int .i64 fn, .int .i64 fd, .int .i64 on, .int .i64 od, .int .i64 cd] 100)).cell? ⟨wr.heap.size, 9, none⟩ = some (.int .i64 cd) := blk_cell bx 9
      gi_wp2_with (first
        | (refine hRy.mono ?_; rintro e W3 hcase; obtain ⟨bb, rfl, hc⟩ : ∃ bb, e = .returned (.bool bb) ∧ (bb = true ∧ J (units.take k ++ [⟨nm, e0, e1, e2, e3, fn, fd, on, od, cd⟩]) W3 ∧ Kp n₀ (wr.alloc (.cells #[.string nm, .int .i64 e0, .int .i64 e1, .int .i64 e2, .int .i64 e3, .int .i64 fn, .int .i64 fd, .int .i64 on, .int .i64 od, .int .i64 cd] 100)) W3 ∨ bb = false ∧ Jx (units.take k ++ [⟨nm, e0, e1, e2, e3, fn, fd, on, od, cd⟩]) W3) := (by rcases hcase with ⟨h1, h2, h3⟩ | ⟨h1, h2⟩; exact ⟨true, h1, Or.inl ⟨rfl, h2, h3⟩⟩; exact ⟨false, h1, Or.inr ⟨rfl, h2⟩⟩))
        | fail)
      all_goals rename_i hbb
      all_goals have hw1 : units.take k ++ [⟨nm, e0, e1, e2, e3, fn, fd, on, od, cd⟩] = units.take (k + 1) := by rw [List.take_add_one, hku]; rfl
      all_goals clear hcase
      all_goals first
        | (have hb1 : bb = false := by simpa using hbb
           have hJx3 := hc.elim (fun h => absurd h.1 (by rw [hb1]; simp)) (fun h => h.2)
           rw [hw1] at hJx3
           refine bodyPost_ret (results_none rfl _ _ _) rfl ?_
           exact ⟨⟨_, rfl⟩, .inr ⟨_, ⟨k + 1, by omega, rfl⟩, hJx3⟩⟩)
        | (have hb1 : bb = true := by simpa using hbb
           have h3 := hc.elim (fun h => h.2) (fun h => absurd h.1 (by rw [hb1]; simp))
           have hJ3 := h3.1
           rw [hw1] at hJ3
           refine ⟨⟨k + 1, by omega, by simp, hJ3, h3.2.2 _ _ (blk_alloc hgr _) rfl, Nat.le_trans hsr (Nat.le_trans hbx.size h3.2.1.size)⟩, ?_⟩
           simp [intOf]
           omega)
    · obtain rfl : k = 25 := by omega
      gi_wp2
      go_end0
      exact ⟨⟨_, rfl⟩, .inl ⟨_, rfl, hJs⟩⟩
end Go.Proofs.Ytmnohhmnkmnikaa.Unit

/- A unit by its name (unit.Find), walked. -/
set_option linter.unusedVariables false
set_option linter.unusedSimpArgs false
namespace Go.Proofs.Ytmnohhmnkmnikaa.Unit
open Go.RowKit Go.Shelf Go.Proofs.YtmnohhmnkmnikaaW.PrintWords Go.Proofs.Ytmnohhmnkmnikaa.Nats Go.Proofs.Ytmnohhmnkmnikaa.HeapKit
attribute [local go_sem] Oper.semAt_some

theorem grown_of_below {A B : World} (h : Below A.heap.size A B) : A.grownBy B none := ⟨h.os, h.tape, h.output, h.size, fun k hk _ => h.block k hk⟩
theorem all_stops (m : Nat) (hm : 1 ≤ m) (n₀ : Nat) (w : World) (hn₀ : n₀ ≤ w.heap.size) :
    SeqStopsK Fence.wide m Try.prog 78 #[] (fun x : URow => #[x.val]) (Kp n₀) (fun ys => ys = units) (fun pre => ∃ k, k ≤ 25 ∧ pre = units.take k) 25 w := fun l J Jx W hW hJ hJx hY h0 =>
  all1 m hm l n₀ J Jx hY W (Nat.le_trans hn₀ hW.size) (fun pre A B hA hb => hJ pre A B none hA (grown_of_below hb) (fun r e => by cases e)) h0
set_option maxRecDepth 100000 in
set_option maxHeartbeats 1000000 in
theorem all_in (m : Nat) (w : World) :
    CallsIn Fence.wide m Try.prog 60 #[] w fun e w' => e = .returned (.func (.func 78) #[] #[]) ∧ w' = w := by
  refine callsIn_of_wp Try.func60 rfl trivial ?_ rfl
  simp only [Try.ntmps60, List.size_toArray, List.length_cons, List.length_nil, Nat.reduceAdd, Nat.reduceSub, Array.replicate_succ, Array.replicate_zero, List.push_toArray, List.append_toArray, List.nil_append, List.cons_append]
  gi_wp2
  go_ret
  exact ⟨rfl, rfl⟩
theorem own_blk {β : Type} {B k : Nat} {o : Obj} (ho : o.isCells = true) : OwnFrom B (fun (_ : β) W => W.heap[k]? = some o) := fun s X Y row hs hg hr =>
  (hg.block k (blk_lt hs) (fun e => by
    obtain ⟨_, o', h1, h2⟩ := hr k e.symm
    rw [show X.heap[k]? = some o from hs] at h1
    cases h1
    rw [ho] at h2
    cases h2)).trans hs
theorem own_pure {β : Type} {B : Nat} {p : β → Prop} : OwnFrom B (fun s (_ : World) => p s) := fun _ _ _ _ h _ _ => h
theorem keeps_set {B : Nat} {W W' : World} (h : KeepsFrom B W W') {p : Addr} (hp : p.block < B) (u : Value) : KeepsFrom B W (W'.setCell p u) :=
  ⟨by simpa using h.size, fun k o hk ho hc => (Below.heap_setCell W' p u k (by omega)).trans (h.same k o hk ho hc)⟩
theorem keeps_below {B : Nat} {W W' : World} (h : Below W.heap.size W W') : KeepsFrom B W W' :=
  ⟨h.size, fun k o _ ho _ => blk_below ho h⟩
/-- The unit of a name. -/
def find (name : ByteArray) : Option URow := units.find? (fun u => u.name.toList == name.toList)
def zrow : URow := ⟨⟨#[]⟩, 0, 0, 0, 0, 0, 0, 0, 0, 0⟩
/-- A unit stored into a box. -/
def put10 (W : World) (b : Nat) (u : URow) : World := (World.setCell (World.setCell (World.setCell (World.setCell (World.setCell (World.setCell (World.setCell (World.setCell (World.setCell (World.setCell W ⟨b, 0, none⟩ (.string u.name)) ⟨b, 1, none⟩ (.int .i64 u.d0)) ⟨b, 2, none⟩ (.int .i64 u.d1)) ⟨b, 3, none⟩ (.int .i64 u.d2)) ⟨b, 4, none⟩ (.int .i64 u.d3)) ⟨b, 5, none⟩ (.int .i64 u.fn)) ⟨b, 6, none⟩ (.int .i64 u.fd)) ⟨b, 7, none⟩ (.int .i64 u.on)) ⟨b, 8, none⟩ (.int .i64 u.od)) ⟨b, 9, none⟩ (.int .i64 u.code))
theorem put10_blk {W : World} {b : Nat} {t : TypeId} (u : URow) (h : W.heap[b]? = some (.cells zrow.cells.toArray t (0, 0))) : (put10 W b u).heap[b]? = some (.cells u.cells.toArray t (0, 0)) := by
  have h0 := blk_put (cs' := #[.string u.name, .int .i64 0, .int .i64 0, .int .i64 0, .int .i64 0, .int .i64 0, .int .i64 0, .int .i64 0, .int .i64 0, .int .i64 0]) h 0 (.string u.name) rfl
  have h1 := blk_put (cs' := #[.string u.name, .int .i64 u.d0, .int .i64 0, .int .i64 0, .int .i64 0, .int .i64 0, .int .i64 0, .int .i64 0, .int .i64 0, .int .i64 0]) h0 1 (.int .i64 u.d0) rfl
  have h2 := blk_put (cs' := #[.string u.name, .int .i64 u.d0, .int .i64 u.d1, .int .i64 0, .int .i64 0, .int .i64 0, .int .i64 0, .int .i64 0, .int .i64 0, .int .i64 0]) h1 2 (.int .i64 u.d1) rfl
  have h3 := blk_put (cs' := #[.string u.name, .int .i64 u.d0, .int .i64 u.d1, .int .i64 u.d2, .int .i64 0, .int .i64 0, .int .i64 0, .int .i64 0, .int .i64 0, .int .i64 0]) h2 3 (.int .i64 u.d2) rfl
  have h4 := blk_put (cs' := #[.string u.name, .int .i64 u.d0, .int .i64 u.d1, .int .i64 u.d2, .int .i64 u.d3, .int .i64 0, .int .i64 0, .int .i64 0, .int .i64 0, .int .i64 0]) h3 4 (.int .i64 u.d3) rfl
  have h5 := blk_put (cs' := #[.string u.name, .int .i64 u.d0, .int .i64 u.d1, .int .i64 u.d2, .int .i64 u.d3, .int .i64 u.fn, .int .i64 0, .int .i64 0, .int .i64 0, .int .i64 0]) h4 5 (.int .i64 u.fn) rfl
  have h6 := blk_put (cs' := #[.string u.name, .int .i64 u.d0, .int .i64 u.d1, .int .i64 u.d2, .int .i64 u.d3, .int .i64 u.fn, .int .i64 u.fd, .int .i64 0, .int .i64 0, .int .i64 0]) h5 6 (.int .i64 u.fd) rfl
  have h7 := blk_put (cs' := #[.string u.name, .int .i64 u.d0, .int .i64 u.d1, .int .i64 u.d2, .int .i64 u.d3, .int .i64 u.fn, .int .i64 u.fd, .int .i64 u.on, .int .i64 0, .int .i64 0]) h6 7 (.int .i64 u.on) rfl
  have h8 := blk_put (cs' := #[.string u.name, .int .i64 u.d0, .int .i64 u.d1, .int .i64 u.d2, .int .i64 u.d3, .int .i64 u.fn, .int .i64 u.fd, .int .i64 u.on, .int .i64 u.od, .int .i64 0]) h7 8 (.int .i64 u.od) rfl
  have h9 := blk_put (cs' := #[.string u.name, .int .i64 u.d0, .int .i64 u.d1, .int .i64 u.d2, .int .i64 u.d3, .int .i64 u.fn, .int .i64 u.fd, .int .i64 u.on, .int .i64 u.od, .int .i64 u.code]) h8 9 (.int .i64 u.code) rfl
  exact h9
theorem put10_far {W : World} {b g : Nat} {o : Obj} (u : URow) (h : W.heap[g]? = some o) (hne : g ≠ b) : (put10 W b u).heap[g]? = some o := by
  have h0 := (Below.heap_setCell _ ⟨b, 0, none⟩ (.string u.name) g hne).trans h
  have h1 := (Below.heap_setCell _ ⟨b, 1, none⟩ (.int .i64 u.d0) g hne).trans h0
  have h2 := (Below.heap_setCell _ ⟨b, 2, none⟩ (.int .i64 u.d1) g hne).trans h1
  have h3 := (Below.heap_setCell _ ⟨b, 3, none⟩ (.int .i64 u.d2) g hne).trans h2
  have h4 := (Below.heap_setCell _ ⟨b, 4, none⟩ (.int .i64 u.d3) g hne).trans h3
  have h5 := (Below.heap_setCell _ ⟨b, 5, none⟩ (.int .i64 u.fn) g hne).trans h4
  have h6 := (Below.heap_setCell _ ⟨b, 6, none⟩ (.int .i64 u.fd) g hne).trans h5
  have h7 := (Below.heap_setCell _ ⟨b, 7, none⟩ (.int .i64 u.on) g hne).trans h6
  have h8 := (Below.heap_setCell _ ⟨b, 8, none⟩ (.int .i64 u.od) g hne).trans h7
  have h9 := (Below.heap_setCell _ ⟨b, 9, none⟩ (.int .i64 u.code) g hne).trans h8
  exact h9
theorem put10_below {w W : World} {b n : Nat} (u : URow) (h : Below n w W) (hb : n ≤ b) : Below n w (put10 W b u) := by
  have h0 := Below.setCell h (p := ⟨b, 0, none⟩) hb (.string u.name)
  have h1 := Below.setCell h0 (p := ⟨b, 1, none⟩) hb (.int .i64 u.d0)
  have h2 := Below.setCell h1 (p := ⟨b, 2, none⟩) hb (.int .i64 u.d1)
  have h3 := Below.setCell h2 (p := ⟨b, 3, none⟩) hb (.int .i64 u.d2)
  have h4 := Below.setCell h3 (p := ⟨b, 4, none⟩) hb (.int .i64 u.d3)
  have h5 := Below.setCell h4 (p := ⟨b, 5, none⟩) hb (.int .i64 u.fn)
  have h6 := Below.setCell h5 (p := ⟨b, 6, none⟩) hb (.int .i64 u.fd)
  have h7 := Below.setCell h6 (p := ⟨b, 7, none⟩) hb (.int .i64 u.on)
  have h8 := Below.setCell h7 (p := ⟨b, 8, none⟩) hb (.int .i64 u.od)
  have h9 := Below.setCell h8 (p := ⟨b, 9, none⟩) hb (.int .i64 u.code)
  exact h9
theorem put10_keeps {B : Nat} {W W' : World} {b : Nat} (u : URow) (h : KeepsFrom B W W') (hb : b < B) : KeepsFrom B W (put10 W' b u) := by
  have h0 := keeps_set h (p := ⟨b, 0, none⟩) hb (.string u.name)
  have h1 := keeps_set h0 (p := ⟨b, 1, none⟩) hb (.int .i64 u.d0)
  have h2 := keeps_set h1 (p := ⟨b, 2, none⟩) hb (.int .i64 u.d1)
  have h3 := keeps_set h2 (p := ⟨b, 3, none⟩) hb (.int .i64 u.d2)
  have h4 := keeps_set h3 (p := ⟨b, 4, none⟩) hb (.int .i64 u.d3)
  have h5 := keeps_set h4 (p := ⟨b, 5, none⟩) hb (.int .i64 u.fn)
  have h6 := keeps_set h5 (p := ⟨b, 6, none⟩) hb (.int .i64 u.fd)
  have h7 := keeps_set h6 (p := ⟨b, 7, none⟩) hb (.int .i64 u.on)
  have h8 := keeps_set h7 (p := ⟨b, 8, none⟩) hb (.int .i64 u.od)
  have h9 := keeps_set h8 (p := ⟨b, 9, none⟩) hb (.int .i64 u.code)
  exact h9

theorem find_hit {name : ByteArray} {pre : List URow} {u : URow} {k : Nat} (hk : pre ++ [u] = units.take k) (h1 : ∀ x ∈ pre, x.name.toList ≠ name.toList) (h2 : u.name.toList = name.toList) : find name = some u := by
  unfold find
  rw [← List.take_append_drop k units, ← hk, List.find?_append, List.find?_append]
  have h3 : pre.find? (fun u => u.name.toList == name.toList) = none := by
    rw [List.find?_eq_none]
    intro x hx
    simpa using h1 x hx
  rw [h3]
  simp [h2]
theorem find_miss {name : ByteArray} (h1 : ∀ x ∈ units, x.name.toList ≠ name.toList) : find name = none := by
  unfold find
  rw [List.find?_eq_none]
  intro x hx
  simpa using h1 x hx

set_option maxRecDepth 100000 in
set_option maxHeartbeats 1000000 in
theorem find_in (m : Nat) (hm : 3 ≤ m) (name : ByteArray) (w : World) :
    CallsIn Fence.wide m Try.prog 35 #[.string name] w fun e W' => e = .returned (.tuple #[((find name).getD zrow).val, .bool (find name).isSome]) ∧ Below w.heap.size w W' := by
  have h1 : 1 ≤ m := by omega
  refine callsIn_of_wp_marks Try.func35 rfl trivial ?_ rfl
  simp only [Try.ntmps35, List.size_toArray, List.length_cons, List.length_nil, Nat.reduceAdd, Nat.reduceSub, Array.replicate_succ, Array.replicate_zero, List.push_toArray, List.append_toArray, List.nil_append, List.cons_append]
  gi_wp2_with ((first | refine ⟨trivial, ?_⟩ | skip); gi_at_call 60; refine (all_in (m - 1) _).mono ?_; rintro e w' ⟨rfl, rfl⟩)
  have hB := b3_start w (.cells #[.string name] 9) (.cells #[.string ⟨#[]⟩, .int .i64 0, .int .i64 0, .int .i64 0, .int .i64 0, .int .i64 0, .int .i64 0, .int .i64 0, .int .i64 0, .int .i64 0] 100) (.cells #[.bool false] 4)
  have hsz : (((w.alloc (.cells #[.string name] 9)).alloc (.cells #[.string ⟨#[]⟩, .int .i64 0, .int .i64 0, .int .i64 0, .int .i64 0, .int .i64 0, .int .i64 0, .int .i64 0, .int .i64 0, .int .i64 0] 100)).alloc (.cells #[.bool false] 4)).heap.size = w.heap.size + 3 := by simp
  obtain ⟨W0, hW0⟩ : ∃ W0, (((w.alloc (.cells #[.string name] 9)).alloc (.cells #[.string ⟨#[]⟩, .int .i64 0, .int .i64 0, .int .i64 0, .int .i64 0, .int .i64 0, .int .i64 0, .int .i64 0, .int .i64 0, .int .i64 0] 100)).alloc (.cells #[.bool false] 4)) = W0 := ⟨_, rfl⟩
  rw [hW0] at hB hsz ⊢
  clear hW0
  refine wpIn_rangeFunc_ownH rfl h1 (gf := 78) (lb := #[]) rfl trivial (enters_of Try.func78 (by kernel_rfl) rfl)
    (all_stops (m - 1) (by omega) w.heap.size W0 (by omega)) Kp.trans (Kp.book (by omega)) (Below.refl _ _) (fun _ => rfl)
    (fun (pre : List URow) W => ((((W.heap[w.heap.size]? = some (.cells #[.string name] 9 (0, 0)) ∧ W.heap[w.heap.size + 1]? = some (.cells #[.string ⟨#[]⟩, .int .i64 0, .int .i64 0, .int .i64 0, .int .i64 0, .int .i64 0, .int .i64 0, .int .i64 0, .int .i64 0, .int .i64 0] 100 (0, 0))) ∧ W.heap[w.heap.size + 1 + 1]? = some (.cells #[.bool false] 4 (0, 0))) ∧ Below w.heap.size w W) ∧ ∀ x ∈ pre, x.name.toList ≠ name.toList))
    (fun c (pre : List URow) W => (((∃ p u, c = .ret ∧ pre = p ++ [u] ∧ (∀ x ∈ p, x.name.toList ≠ name.toList) ∧ u.name.toList = name.toList ∧ W.heap[w.heap.size + 1]? = some (.cells u.cells.toArray 100 (0, 0))) ∧ W.heap[w.heap.size + 1 + 1]? = some (.cells #[.bool true] 4 (0, 0))) ∧ Below w.heap.size w W))
    (OwnFrom.and (OwnFrom.and (OwnFrom.and (OwnFrom.and (own_blk rfl) (own_blk rfl)) (own_blk rfl)) (ownFrom_below (Nat.le_refl _) (by omega))) own_pure)
    (fun c => OwnFrom.and (OwnFrom.and (fun s X Y row hs hg hr => by obtain ⟨p, u, h1, h2, h3, h4, h5⟩ := hs; exact ⟨p, u, h1, h2, h3, h4, own_blk (β := Unit) (B := W0.heap.size) rfl () X Y row h5 hg hr⟩) (own_blk rfl)) (ownFrom_below (Nat.le_refl _) (by omega)))
    ⟨⟨⟨⟨hB.b1, hB.b2⟩, hB.b3⟩, hB.be⟩, fun x hx => by cases hx⟩
    (fun (x : URow) a' W => ∃ Bx, w.heap.size + 1 + 1 < Bx ∧ W.heap[Bx]? = some (.cells x.cells.toArray 100 (0, 0)) ∧ a' = { tmps := #[.string name, .pointer (some ⟨w.heap.size, 0, none⟩), .pointer (some ⟨w.heap.size + 1, 0, none⟩), .pointer (some ⟨w.heap.size + 1 + 1, 0, none⟩), .pointer (some ⟨Bx, 0, none⟩), .func (.func 78) #[] #[], x.val, undef, undef, undef, undef, undef, undef], defers := [] })
    (fun x a' _ X Y row hs hg hr => by
      obtain ⟨Bx, h1, h2, h3⟩ := hs
      exact ⟨Bx, h1, own_blk (β := Unit) (B := W0.heap.size) rfl () X Y row h2 hg hr, h3⟩)
    ?assign ?body ?done ?stop
  case assign =>
    rintro l pre x W K ⟨⟨⟨⟨i1, i2⟩, i3⟩, i4⟩, i5⟩ hK
    obtain ⟨nm, e0, e1, e2, e3, fn, fd, on, od, cd⟩ := x
    dsimp only [URow.val]
    have hlt := blk_lt i3
    gi_wp2
    exact hK _ _ ((KeepsOthers.alloc _ _).from _) ⟨(Below.refl _ W).alloc i4.size _, fun k o ho _ => blk_alloc ho _⟩ ⟨⟨⟨⟨blk_alloc i1 _, blk_alloc i2 _⟩, blk_alloc i3 _⟩, i4.alloc i4.size _⟩, i5⟩ ⟨W.heap.size, hlt, blk_new W _, rfl⟩
  case body =>
    rintro l pre x a' W hl ⟨r, hr⟩ ⟨⟨⟨⟨i1, i2⟩, i3⟩, i4⟩, i5⟩ ⟨Bx, hBx, bX, rfl⟩ hlt
    obtain ⟨nm, e0, e1, e2, e3, fn, fd, on, od, cd⟩ := x
    replace bX : W.heap[Bx]? = some (.cells #[.string nm, .int .i64 e0, .int .i64 e1, .int .i64 e2, .int .i64 e3, .int .i64 fn, .int .i64 fd, .int .i64 on, .int .i64 od, .int .i64 cd] 100 (0, 0)) := bX
    have k1 : W.cell? ⟨w.heap.size, 0, none⟩ = some (.string name) := blk_cell i1 0
    have c0 : W.cell? ⟨Bx, 0, none⟩ = some (.string nm) := blk_cell bX 0
    have c1 : W.cell? ⟨Bx, 1, none⟩ = some (.int .i64 e0) := blk_cell bX 1
    have c2 : W.cell? ⟨Bx, 2, none⟩ = some (.int .i64 e1) := blk_cell bX 2
    have c3 : W.cell? ⟨Bx, 3, none⟩ = some (.int .i64 e2) := blk_cell bX 3
    have c4 : W.cell? ⟨Bx, 4, none⟩ = some (.int .i64 e3) := blk_cell bX 4
    have c5 : W.cell? ⟨Bx, 5, none⟩ = some (.int .i64 fn) := blk_cell bX 5
    have c6 : W.cell? ⟨Bx, 6, none⟩ = some (.int .i64 fd) := blk_cell bX 6
    have c7 : W.cell? ⟨Bx, 7, none⟩ = some (.int .i64 on) := blk_cell bX 7
    have c8 : W.cell? ⟨Bx, 8, none⟩ = some (.int .i64 od) := blk_cell bX 8
    have c9 : W.cell? ⟨Bx, 9, none⟩ = some (.int .i64 cd) := blk_cell bX 9
    have d0 : W.cell? ⟨w.heap.size + 1, 0, none⟩ = some (.string ⟨#[]⟩) := blk_cell i2 0
    have df0 : W.frozen? ⟨w.heap.size + 1, 0, none⟩ = false := blk_frozen i2 0
    have d1 : W.cell? ⟨w.heap.size + 1, 1, none⟩ = some (.int .i64 0) := blk_cell i2 1
    have df1 : W.frozen? ⟨w.heap.size + 1, 1, none⟩ = false := blk_frozen i2 1
    have d2 : W.cell? ⟨w.heap.size + 1, 2, none⟩ = some (.int .i64 0) := blk_cell i2 2
    have df2 : W.frozen? ⟨w.heap.size + 1, 2, none⟩ = false := blk_frozen i2 2
    have d3 : W.cell? ⟨w.heap.size + 1, 3, none⟩ = some (.int .i64 0) := blk_cell i2 3
    have df3 : W.frozen? ⟨w.heap.size + 1, 3, none⟩ = false := blk_frozen i2 3
    have d4 : W.cell? ⟨w.heap.size + 1, 4, none⟩ = some (.int .i64 0) := blk_cell i2 4
    have df4 : W.frozen? ⟨w.heap.size + 1, 4, none⟩ = false := blk_frozen i2 4
    have d5 : W.cell? ⟨w.heap.size + 1, 5, none⟩ = some (.int .i64 0) := blk_cell i2 5
    have df5 : W.frozen? ⟨w.heap.size + 1, 5, none⟩ = false := blk_frozen i2 5
    have d6 : W.cell? ⟨w.heap.size + 1, 6, none⟩ = some (.int .i64 0) := blk_cell i2 6
    have df6 : W.frozen? ⟨w.heap.size + 1, 6, none⟩ = false := blk_frozen i2 6
    have d7 : W.cell? ⟨w.heap.size + 1, 7, none⟩ = some (.int .i64 0) := blk_cell i2 7
    have df7 : W.frozen? ⟨w.heap.size + 1, 7, none⟩ = false := blk_frozen i2 7
    have d8 : W.cell? ⟨w.heap.size + 1, 8, none⟩ = some (.int .i64 0) := blk_cell i2 8
    have df8 : W.frozen? ⟨w.heap.size + 1, 8, none⟩ = false := blk_frozen i2 8
    have d9 : W.cell? ⟨w.heap.size + 1, 9, none⟩ = some (.int .i64 0) := blk_cell i2 9
    have df9 : W.frozen? ⟨w.heap.size + 1, 9, none⟩ = false := blk_frozen i2 9
    have g0 : W.cell? ⟨w.heap.size + 1 + 1, 0, none⟩ = some (.bool false) := blk_cell i3 0
    have gf : W.frozen? ⟨w.heap.size + 1 + 1, 0, none⟩ = false := blk_frozen i3 0
    have n1 : Bx ≠ w.heap.size + 1 := by omega
    have n2 : Bx ≠ w.heap.size + 1 + 1 := by omega
    by_cases he : nm.toList = name.toList
    · have ee : (nm.toList == name.toList) = true := by simp [he]
      have HE := Lib.hid he
      clear he
      gi_wp2
      have hk := keeps_set (put10_keeps (b := w.heap.size + 1) ⟨nm, e0, e1, e2, e3, fn, fd, on, od, cd⟩ (KeepsFrom.refl W0.heap.size W) (by omega)) (p := ⟨w.heap.size + 1 + 1, 0, none⟩) (by show w.heap.size + 1 + 1 < W0.heap.size; omega) (.bool true)
      have j1 := blk_far (put10_blk ⟨nm, e0, e1, e2, e3, fn, fd, on, od, cd⟩ i2) (p := ⟨w.heap.size + 1 + 1, 0, none⟩) (by show w.heap.size + 1 ≠ w.heap.size + 1 + 1; omega) (.bool true)
      have j2 := blk_set (put10_far (b := w.heap.size + 1) ⟨nm, e0, e1, e2, e3, fn, fd, on, od, cd⟩ i3 (by omega)) 0 (.bool true)
      have jB := Below.setCell (put10_below (b := w.heap.size + 1) ⟨nm, e0, e1, e2, e3, fn, fd, on, od, cd⟩ i4 (by omega)) (p := ⟨w.heap.size + 1 + 1, 0, none⟩) (by show w.heap.size ≤ w.heap.size + 1 + 1; omega) (.bool true)
      exact ⟨hk, ⟨⟨pre, ⟨nm, e0, e1, e2, e3, fn, fd, on, od, cd⟩, rfl, rfl, i5, HE.out, j1⟩, j2⟩, jB⟩
    · have ee : (nm.toList == name.toList) = false := by simp [he]
      gi_wp2
      exact ⟨KeepsFrom.refl _ _, Kp.refl _ _, ⟨⟨⟨⟨i1, i2⟩, i3⟩, i4⟩, fun x hx => by
        rcases List.mem_append.1 hx with h | h
        · exact i5 x h
        · rw [List.mem_singleton.1 h]; exact he⟩⟩
  case done =>
    rintro D ys W hD rfl ⟨⟨⟨⟨i1, i2⟩, i3⟩, i4⟩, i5⟩ hK
    have hf := find_miss i5
    have d0 : W.cell? ⟨w.heap.size + 1, 0, none⟩ = some (.string ⟨#[]⟩) := blk_cell i2 0
    have df0 : W.frozen? ⟨w.heap.size + 1, 0, none⟩ = false := blk_frozen i2 0
    have d1 : W.cell? ⟨w.heap.size + 1, 1, none⟩ = some (.int .i64 0) := blk_cell i2 1
    have df1 : W.frozen? ⟨w.heap.size + 1, 1, none⟩ = false := blk_frozen i2 1
    have d2 : W.cell? ⟨w.heap.size + 1, 2, none⟩ = some (.int .i64 0) := blk_cell i2 2
    have df2 : W.frozen? ⟨w.heap.size + 1, 2, none⟩ = false := blk_frozen i2 2
    have d3 : W.cell? ⟨w.heap.size + 1, 3, none⟩ = some (.int .i64 0) := blk_cell i2 3
    have df3 : W.frozen? ⟨w.heap.size + 1, 3, none⟩ = false := blk_frozen i2 3
    have d4 : W.cell? ⟨w.heap.size + 1, 4, none⟩ = some (.int .i64 0) := blk_cell i2 4
    have df4 : W.frozen? ⟨w.heap.size + 1, 4, none⟩ = false := blk_frozen i2 4
    have d5 : W.cell? ⟨w.heap.size + 1, 5, none⟩ = some (.int .i64 0) := blk_cell i2 5
    have df5 : W.frozen? ⟨w.heap.size + 1, 5, none⟩ = false := blk_frozen i2 5
    have d6 : W.cell? ⟨w.heap.size + 1, 6, none⟩ = some (.int .i64 0) := blk_cell i2 6
    have df6 : W.frozen? ⟨w.heap.size + 1, 6, none⟩ = false := blk_frozen i2 6
    have d7 : W.cell? ⟨w.heap.size + 1, 7, none⟩ = some (.int .i64 0) := blk_cell i2 7
    have df7 : W.frozen? ⟨w.heap.size + 1, 7, none⟩ = false := blk_frozen i2 7
    have d8 : W.cell? ⟨w.heap.size + 1, 8, none⟩ = some (.int .i64 0) := blk_cell i2 8
    have df8 : W.frozen? ⟨w.heap.size + 1, 8, none⟩ = false := blk_frozen i2 8
    have d9 : W.cell? ⟨w.heap.size + 1, 9, none⟩ = some (.int .i64 0) := blk_cell i2 9
    have df9 : W.frozen? ⟨w.heap.size + 1, 9, none⟩ = false := blk_frozen i2 9
    have g0 : W.cell? ⟨w.heap.size + 1 + 1, 0, none⟩ = some (.bool false) := blk_cell i3 0
    have gf : W.frozen? ⟨w.heap.size + 1 + 1, 0, none⟩ = false := blk_frozen i3 0
    gi_wp2
    have hK1 := (Below.heap_setCell (put10 W (w.heap.size + 1) zrow) ⟨w.heap.size + 1 + 1, 0, none⟩ (.bool false) D (by show D ≠ w.heap.size + 1 + 1; omega)).trans (put10_far (b := w.heap.size + 1) zrow hK (by omega))
    have j1 := blk_far (put10_blk zrow i2) (p := ⟨w.heap.size + 1 + 1, 0, none⟩) (by show w.heap.size + 1 ≠ w.heap.size + 1 + 1; omega) (.bool false)
    have j2 := blk_set (put10_far (b := w.heap.size + 1) zrow i3 (by omega)) 0 (.bool false)
    have jB := Below.setCell (put10_below (b := w.heap.size + 1) zrow i4 (by omega)) (p := ⟨w.heap.size + 1 + 1, 0, none⟩) (by show w.heap.size ≤ w.heap.size + 1 + 1; omega) (.bool false)
    obtain ⟨W1, hW1⟩ : ∃ W1, (put10 W (w.heap.size + 1) zrow).setCell ⟨w.heap.size + 1 + 1, 0, none⟩ (.bool false) = W1 := ⟨_, rfl⟩
    rw [hW1] at hK1 j1 j2 jB
    show bodyPostM Fence.wide m Try.prog Try.f35 _ _ _ ((put10 W (w.heap.size + 1) zrow).setCell ⟨w.heap.size + 1 + 1, 0, none⟩ (.bool false))
    rw [hW1]
    clear hW1
    obtain ⟨W2, hW2⟩ : ∃ W2, W1.putObj D (.deferred none) = W2 := ⟨_, rfl⟩
    have x1 : W2.heap[w.heap.size + 1]? = some (.cells #[.string ⟨#[]⟩, .int .i64 0, .int .i64 0, .int .i64 0, .int .i64 0, .int .i64 0, .int .i64 0, .int .i64 0, .int .i64 0, .int .i64 0] 100 (0, 0)) := hW2 ▸ (World.putObj_heap_other (by omega)).trans j1
    have x2 : W2.heap[w.heap.size + 1 + 1]? = some (.cells #[.bool false] 4 (0, 0)) := hW2 ▸ (World.putObj_heap_other (by omega)).trans j2
    have hB2 : Below w.heap.size w W2 := hW2 ▸ jB.trans (belowK_b (w := w) (Nat.le_refl _) W1 D _ _ (by omega) hK1 rfl rfl)
    refine ⟨by simp, .inl ⟨_, _, rfl, run_takeDeferred hK1, ?_⟩⟩
    rw [hW2]
    clear hW2
    have s0 : W2.cell? ⟨w.heap.size + 1, 0, none⟩ = some (.string ⟨#[]⟩) := blk_cell x1 0
    have s1 : W2.cell? ⟨w.heap.size + 1, 1, none⟩ = some (.int .i64 0) := blk_cell x1 1
    have s2 : W2.cell? ⟨w.heap.size + 1, 2, none⟩ = some (.int .i64 0) := blk_cell x1 2
    have s3 : W2.cell? ⟨w.heap.size + 1, 3, none⟩ = some (.int .i64 0) := blk_cell x1 3
    have s4 : W2.cell? ⟨w.heap.size + 1, 4, none⟩ = some (.int .i64 0) := blk_cell x1 4
    have s5 : W2.cell? ⟨w.heap.size + 1, 5, none⟩ = some (.int .i64 0) := blk_cell x1 5
    have s6 : W2.cell? ⟨w.heap.size + 1, 6, none⟩ = some (.int .i64 0) := blk_cell x1 6
    have s7 : W2.cell? ⟨w.heap.size + 1, 7, none⟩ = some (.int .i64 0) := blk_cell x1 7
    have s8 : W2.cell? ⟨w.heap.size + 1, 8, none⟩ = some (.int .i64 0) := blk_cell x1 8
    have s9 : W2.cell? ⟨w.heap.size + 1, 9, none⟩ = some (.int .i64 0) := blk_cell x1 9
    have s10 : W2.cell? ⟨w.heap.size + 1 + 1, 0, none⟩ = some (.bool false) := blk_cell x2 0
    refine ⟨_, by simp [results, Try.results35, go_sem, s0, s1, s2, s3, s4, s5, s6, s7, s8, s9, s10]; try rfl, ?_⟩
    try rw [hf]
    exact ⟨rfl, hB2⟩
  case stop =>
    rintro D c pre W hD ⟨k, hk, hpre⟩ ⟨⟨⟨p, u, rfl, rfl, h3, h4, j1⟩, j2⟩, jB⟩ hK
    have hf := find_hit hpre h3 h4
    obtain ⟨nm, e0, e1, e2, e3, fn, fd, on, od, cd⟩ := u
    gi_wp2
    have hK1 := hK
    obtain ⟨W1, hW1⟩ : ∃ W1, W = W1 := ⟨_, rfl⟩
    rw [hW1] at hK1 j1 j2 jB ⊢
    clear hW1 hK
    obtain ⟨W2, hW2⟩ : ∃ W2, W1.putObj D (.deferred none) = W2 := ⟨_, rfl⟩
    have x1 : W2.heap[w.heap.size + 1]? = some (.cells #[.string nm, .int .i64 e0, .int .i64 e1, .int .i64 e2, .int .i64 e3, .int .i64 fn, .int .i64 fd, .int .i64 on, .int .i64 od, .int .i64 cd] 100 (0, 0)) := hW2 ▸ (World.putObj_heap_other (by omega)).trans j1
    have x2 : W2.heap[w.heap.size + 1 + 1]? = some (.cells #[.bool true] 4 (0, 0)) := hW2 ▸ (World.putObj_heap_other (by omega)).trans j2
    have hB2 : Below w.heap.size w W2 := hW2 ▸ jB.trans (belowK_b (w := w) (Nat.le_refl _) W1 D _ _ (by omega) hK1 rfl rfl)
    refine ⟨by simp, .inl ⟨_, _, rfl, run_takeDeferred hK1, ?_⟩⟩
    rw [hW2]
    clear hW2
    have s0 : W2.cell? ⟨w.heap.size + 1, 0, none⟩ = some (.string nm) := blk_cell x1 0
    have s1 : W2.cell? ⟨w.heap.size + 1, 1, none⟩ = some (.int .i64 e0) := blk_cell x1 1
    have s2 : W2.cell? ⟨w.heap.size + 1, 2, none⟩ = some (.int .i64 e1) := blk_cell x1 2
    have s3 : W2.cell? ⟨w.heap.size + 1, 3, none⟩ = some (.int .i64 e2) := blk_cell x1 3
    have s4 : W2.cell? ⟨w.heap.size + 1, 4, none⟩ = some (.int .i64 e3) := blk_cell x1 4
    have s5 : W2.cell? ⟨w.heap.size + 1, 5, none⟩ = some (.int .i64 fn) := blk_cell x1 5
    have s6 : W2.cell? ⟨w.heap.size + 1, 6, none⟩ = some (.int .i64 fd) := blk_cell x1 6
    have s7 : W2.cell? ⟨w.heap.size + 1, 7, none⟩ = some (.int .i64 on) := blk_cell x1 7
    have s8 : W2.cell? ⟨w.heap.size + 1, 8, none⟩ = some (.int .i64 od) := blk_cell x1 8
    have s9 : W2.cell? ⟨w.heap.size + 1, 9, none⟩ = some (.int .i64 cd) := blk_cell x1 9
    have s10 : W2.cell? ⟨w.heap.size + 1 + 1, 0, none⟩ = some (.bool true) := blk_cell x2 0
    refine ⟨_, by simp [results, Try.results35, go_sem, s0, s1, s2, s3, s4, s5, s6, s7, s8, s9, s10]; try rfl, ?_⟩
    try rw [hf]
    exact ⟨rfl, hB2⟩

theorem find_calls (name : ByteArray) (w : World) : Calls Try.prog 35 #[.string name] w fun e W' => e = .returned (.tuple #[((find name).getD zrow).val, .bool (find name).isSome]) ∧ Below w.heap.size w W' :=
  (callsIn_wide (n := 3)).1 (find_in 3 (Nat.le_refl _) name w)
end Go.Proofs.Ytmnohhmnkmnikaa.Unit

/- The steps of a conversion (unit.times, plus, steps), walked. -/
set_option linter.unusedVariables false
set_option linter.unusedSimpArgs false
namespace Go.Proofs.Ytmnohhmnkmnikaa.Unit
open Go.RowKit Go.Proofs.YtmnohhmnkmnikaaW.PrintWords Go.Proofs.YtmnohhmnkmnikaaW.PrintLast Go.Proofs.Ytmnohhmnkmnikaa.Nats Go.Proofs.Ytmnohhmnkmnikaa.HeapKit Go.Proofs.Ytmnohhmnkmnikaa.RatPlain Go.Proofs.Ytmnohhmnkmnikaa.Scale

set_option maxRecDepth 100000 in
set_option maxHeartbeats 4000000 in
theorem times_made (n d : Int) (w : World) : Calls Try.prog 38 #[.agg #[.int .i64 n, .int .i64 d]] w fun e w' => ∃ b, e = .returned (.func (.func 61) #[] #[.pointer (some ⟨b, 0, none⟩)]) ∧ w.heap.size ≤ b ∧ w'.heap[b]? = some (.cells #[.int .i64 n, .int .i64 d] 53 (0, 0)) ∧ Below w.heap.size w w' := by
  go_enter Try.func38, Try.ntmps38
  go_wp2_with fail
  go_ret
  exact ⟨w.heap.size, rfl, Nat.le_refl _, blk_new _ _, below_alloc (Below.refl _ _) _⟩
set_option maxRecDepth 100000 in
set_option maxHeartbeats 4000000 in
theorem times_done {vn vd n d : Int} (h1 : I64 vn) (h2 : I64 vd) (h3 : I64 n) (h4 : I64 d) (b : Nat) (w : World) (hb : w.heap[b]? = some (.cells #[.int .i64 n, .int .i64 d] 53 (0, 0))) :
    Calls Try.prog 61 #[.agg #[.int .i64 vn, .int .i64 vd], .pointer (some ⟨b, 0, none⟩)] w fun e w' => e = ans (timesW (vn, vd, 0) n d) ∧ Below w.heap.size w w' := by
  have hc := fun w => mul_calls h1 h2 h3 h4 w
  have hM : timesW (vn, vd, 0) n d = told (Rt vn vd ∧ Rt n d) (mulR vn vd n d) := by unfold timesW; rw [if_pos rfl]
  rw [hM]
  obtain ⟨⟨r1, r2, r3⟩, hMM⟩ : ∃ M, told (Rt vn vd ∧ Rt n d) (mulR vn vd n d) = M := ⟨_, rfl⟩
  rw [hMM]
  simp only [hMM, ans] at hc
  clear hMM hM
  have HC := Lib.hid hc
  clear hc
  have hB := b2_start w (.cells #[.int .i64 vn, .int .i64 vd] 53) (.cells #[.int .i64 0, .int .i64 0] 53)
  have hb2 := blk_alloc (blk_alloc hb (.cells #[.int .i64 vn, .int .i64 vd] 53)) (.cells #[.int .i64 0, .int .i64 0] 53)
  have c0 : ((w.alloc (.cells #[.int .i64 vn, .int .i64 vd] 53)).alloc (.cells #[.int .i64 0, .int .i64 0] 53)).cell? ⟨b, 0, none⟩ = some (.int .i64 n) := blk_cell hb2 0
  have c1 : ((w.alloc (.cells #[.int .i64 vn, .int .i64 vd] 53)).alloc (.cells #[.int .i64 0, .int .i64 0] 53)).cell? ⟨b, 1, none⟩ = some (.int .i64 d) := blk_cell hb2 1
  have a0 : ((w.alloc (.cells #[.int .i64 vn, .int .i64 vd] 53)).alloc (.cells #[.int .i64 0, .int .i64 0] 53)).cell? ⟨w.heap.size, 0, none⟩ = some (.int .i64 vn) := blk_cell hB.b1 0
  have a1 : ((w.alloc (.cells #[.int .i64 vn, .int .i64 vd] 53)).alloc (.cells #[.int .i64 0, .int .i64 0] 53)).cell? ⟨w.heap.size, 1, none⟩ = some (.int .i64 vd) := blk_cell hB.b1 1
  go_enter Try.func61, Try.ntmps61
  go_wp2_with fail
  refine (HC.out _).mono ?_
  rintro e w1 ⟨rfl, hb1⟩
  replace hB := hB.step hb1
  clear hb1 c0 c1 a0 a1
  have hx_ := hB.b2
  have d_0 : w1.cell? ⟨w.heap.size + 1, 0, none⟩ = some (.int .i64 0) := blk_cell hx_ 0
  have df_0 : w1.frozen? ⟨w.heap.size + 1, 0, none⟩ = false := blk_frozen hx_ 0
  have d_1 : w1.cell? ⟨w.heap.size + 1, 1, none⟩ = some (.int .i64 0) := blk_cell hx_ 1
  have df_1 : w1.frozen? ⟨w.heap.size + 1, 1, none⟩ = false := blk_frozen hx_ 1
  go_wp2_with fail
  have k_ := (blk_set (blk_set hx_ 0 (.int .i64 r1)) 1 (.int .i64 r2))
  have hB_ := (Below.setCell (Below.setCell hB.be (p := ⟨w.heap.size + 1, 0, none⟩) ((by show w.heap.size ≤ w.heap.size + 1; omega)) (.int .i64 r1)) (p := ⟨w.heap.size + 1, 1, none⟩) ((by show w.heap.size ≤ w.heap.size + 1; omega)) (.int .i64 r2))
  obtain ⟨w_, hw_⟩ : ∃ w_, w_ = (World.setCell (World.setCell w1 ⟨w.heap.size + 1, 0, none⟩ (.int .i64 r1)) ⟨w.heap.size + 1, 1, none⟩ (.int .i64 r2)) := ⟨_, rfl⟩
  rw [← hw_] at k_ hB_
  try rw [← hw_]
  clear hw_
  have s_0 : w_.cell? ⟨w.heap.size + 1, 0, none⟩ = some (.int .i64 r1) := blk_cell k_ 0
  have s_1 : w_.cell? ⟨w.heap.size + 1, 1, none⟩ = some (.int .i64 r2) := blk_cell k_ 1
  refine bodyPost_ret (by simp [results, Try.results61, go_sem, s_0, s_1]; try rfl) rfl ?_
  exact ⟨rfl, hB_⟩

set_option maxRecDepth 100000 in
set_option maxHeartbeats 4000000 in
theorem plus_made (n d : Int) (w : World) : Calls Try.prog 39 #[.agg #[.int .i64 n, .int .i64 d]] w fun e w' => ∃ b, e = .returned (.func (.func 63) #[] #[.pointer (some ⟨b, 0, none⟩)]) ∧ w.heap.size ≤ b ∧ w'.heap[b]? = some (.cells #[.int .i64 n, .int .i64 d] 53 (0, 0)) ∧ Below w.heap.size w w' := by
  go_enter Try.func39, Try.ntmps39
  go_wp2_with fail
  go_ret
  exact ⟨w.heap.size, rfl, Nat.le_refl _, blk_new _ _, below_alloc (Below.refl _ _) _⟩
set_option maxRecDepth 100000 in
set_option maxHeartbeats 4000000 in
theorem plus_done {vn vd n d : Int} (h1 : I64 vn) (h2 : I64 vd) (h3 : I64 n) (h4 : I64 d) (b : Nat) (w : World) (hb : w.heap[b]? = some (.cells #[.int .i64 n, .int .i64 d] 53 (0, 0))) :
    Calls Try.prog 63 #[.agg #[.int .i64 vn, .int .i64 vd], .pointer (some ⟨b, 0, none⟩)] w fun e w' => e = ans (plusW (vn, vd, 0) n d) ∧ Below w.heap.size w w' := by
  have hc := fun w => add_calls h1 h2 h3 h4 w
  have hM : plusW (vn, vd, 0) n d = told (Rt vn vd ∧ Rt n d) (addR vn vd n d) := by unfold plusW; rw [if_pos rfl]
  rw [hM]
  obtain ⟨⟨r1, r2, r3⟩, hMM⟩ : ∃ M, told (Rt vn vd ∧ Rt n d) (addR vn vd n d) = M := ⟨_, rfl⟩
  rw [hMM]
  simp only [hMM, ans] at hc
  clear hMM hM
  have HC := Lib.hid hc
  clear hc
  have hB := b2_start w (.cells #[.int .i64 vn, .int .i64 vd] 53) (.cells #[.int .i64 0, .int .i64 0] 53)
  have hb2 := blk_alloc (blk_alloc hb (.cells #[.int .i64 vn, .int .i64 vd] 53)) (.cells #[.int .i64 0, .int .i64 0] 53)
  have c0 : ((w.alloc (.cells #[.int .i64 vn, .int .i64 vd] 53)).alloc (.cells #[.int .i64 0, .int .i64 0] 53)).cell? ⟨b, 0, none⟩ = some (.int .i64 n) := blk_cell hb2 0
  have c1 : ((w.alloc (.cells #[.int .i64 vn, .int .i64 vd] 53)).alloc (.cells #[.int .i64 0, .int .i64 0] 53)).cell? ⟨b, 1, none⟩ = some (.int .i64 d) := blk_cell hb2 1
  have a0 : ((w.alloc (.cells #[.int .i64 vn, .int .i64 vd] 53)).alloc (.cells #[.int .i64 0, .int .i64 0] 53)).cell? ⟨w.heap.size, 0, none⟩ = some (.int .i64 vn) := blk_cell hB.b1 0
  have a1 : ((w.alloc (.cells #[.int .i64 vn, .int .i64 vd] 53)).alloc (.cells #[.int .i64 0, .int .i64 0] 53)).cell? ⟨w.heap.size, 1, none⟩ = some (.int .i64 vd) := blk_cell hB.b1 1
  go_enter Try.func63, Try.ntmps63
  go_wp2_with fail
  refine (HC.out _).mono ?_
  rintro e w1 ⟨rfl, hb1⟩
  replace hB := hB.step hb1
  clear hb1 c0 c1 a0 a1
  have hx_ := hB.b2
  have d_0 : w1.cell? ⟨w.heap.size + 1, 0, none⟩ = some (.int .i64 0) := blk_cell hx_ 0
  have df_0 : w1.frozen? ⟨w.heap.size + 1, 0, none⟩ = false := blk_frozen hx_ 0
  have d_1 : w1.cell? ⟨w.heap.size + 1, 1, none⟩ = some (.int .i64 0) := blk_cell hx_ 1
  have df_1 : w1.frozen? ⟨w.heap.size + 1, 1, none⟩ = false := blk_frozen hx_ 1
  go_wp2_with fail
  have k_ := (blk_set (blk_set hx_ 0 (.int .i64 r1)) 1 (.int .i64 r2))
  have hB_ := (Below.setCell (Below.setCell hB.be (p := ⟨w.heap.size + 1, 0, none⟩) ((by show w.heap.size ≤ w.heap.size + 1; omega)) (.int .i64 r1)) (p := ⟨w.heap.size + 1, 1, none⟩) ((by show w.heap.size ≤ w.heap.size + 1; omega)) (.int .i64 r2))
  obtain ⟨w_, hw_⟩ : ∃ w_, w_ = (World.setCell (World.setCell w1 ⟨w.heap.size + 1, 0, none⟩ (.int .i64 r1)) ⟨w.heap.size + 1, 1, none⟩ (.int .i64 r2)) := ⟨_, rfl⟩
  rw [← hw_] at k_ hB_
  try rw [← hw_]
  clear hw_
  have s_0 : w_.cell? ⟨w.heap.size + 1, 0, none⟩ = some (.int .i64 r1) := blk_cell k_ 0
  have s_1 : w_.cell? ⟨w.heap.size + 1, 1, none⟩ = some (.int .i64 r2) := blk_cell k_ 1
  refine bodyPost_ret (by simp [results, Try.results63, go_sem, s_0, s_1]; try rfl) rfl ?_
  exact ⟨rfl, hB_⟩

/-- A step: whether it multiplies, where its fraction lies, the fraction. -/
structure Stp where
  mul : Bool
  b : Nat
  n : Int
  d : Int
def Stp.fn (s : Stp) : Value := .func (.func (if s.mul then 61 else 63)) #[] #[.pointer (some ⟨s.b, 0, none⟩)]
def Stp.go (r : Int × Int × Int) (s : Stp) : Int × Int × Int := if s.mul then timesW r s.n s.d else plusW r s.n s.d
/-- The steps lie in the heap. -/
def Steps (W : World) (l : List Stp) : Prop := ∀ s ∈ l, W.heap[s.b]? = some (.cells #[.int .i64 s.n, .int .i64 s.d] 53 (0, 0)) ∧ I64 s.n ∧ I64 s.d
theorem Steps.step {W w2 : World} {l : List Stp} (h : Steps W l) (hb : Below W.heap.size W w2) : Steps w2 l := fun s hs => ⟨blk_below (h s hs).1 hb, (h s hs).2⟩
theorem go_In {r : Int × Int × Int} {s : Stp} (h : In r) : In (s.go r) := by
  unfold Stp.go
  split
  · exact timesW_In h
  · exact plusW_In h
theorem go_err {r : Int × Int × Int} {s : Stp} (h : r.2.2 ≠ 0) : s.go r = r := by
  unfold Stp.go
  cases s.mul <;> simp [timesW, plusW, h]
theorem fold_err {r : Int × Int × Int} (h : r.2.2 ≠ 0) : ∀ l : List Stp, l.foldl (fun r s => s.go r) r = r := by
  intro l
  induction l with
  | nil => rfl
  | cons s l ih => rw [List.foldl_cons, go_err h, ih]
theorem told_err {P : Prop} [Decidable P] {r : Option (Int × Int)} (h : (told P r).2.2 ≠ 0) : (told P r).1 = 0 ∧ (told P r).2.1 = 0 := by
  rcases told_cases P r with ⟨h1, _⟩ | ⟨_, _, h1⟩ | ⟨_, p, _, h1⟩ <;> rw [h1] at h ⊢
  · exact ⟨rfl, rfl⟩
  · exact ⟨rfl, rfl⟩
  · exact absurd rfl h
theorem go_zero {vn vd : Int} {s : Stp} (h : (s.go (vn, vd, 0)).2.2 ≠ 0) : (s.go (vn, vd, 0)).1 = 0 ∧ (s.go (vn, vd, 0)).2.1 = 0 := by
  obtain ⟨m, b, n, d⟩ := s
  cases m with
  | true =>
    have e : Stp.go (vn, vd, 0) ⟨true, b, n, d⟩ = told (Rt vn vd ∧ Rt n d) (mulR vn vd n d) := by
      unfold Stp.go timesW
      rw [if_pos rfl, if_pos rfl]
    rw [e] at h ⊢
    exact told_err h
  | false =>
    have e : Stp.go (vn, vd, 0) ⟨false, b, n, d⟩ = told (Rt vn vd ∧ Rt n d) (addR vn vd n d) := by
      unfold Stp.go plusW
      rw [if_neg (by simp), if_pos rfl]
    rw [e] at h ⊢
    exact told_err h
theorem done_calls {vn vd : Int} (h1 : I64 vn) (h2 : I64 vd) (s : Stp) (hs : I64 s.n ∧ I64 s.d) (w : World) (hb : w.heap[s.b]? = some (.cells #[.int .i64 s.n, .int .i64 s.d] 53 (0, 0))) :
    Calls Try.prog (if s.mul then 61 else 63) #[.agg #[.int .i64 vn, .int .i64 vd], .pointer (some ⟨s.b, 0, none⟩)] w fun e w' => e = ans (s.go (vn, vd, 0)) ∧ Below w.heap.size w w' := by
  obtain ⟨m, b, n, d⟩ := s
  cases m with
  | true => exact times_done h1 h2 hs.1 hs.2 b w hb
  | false => exact plus_done h1 h2 hs.1 hs.2 b w hb

/-- Between two steps. -/
def RelS (w : World) (l : List Stp) (g N : Nat) (vn vd : Int) (s12 : Value) (wr : World) : Prop :=
  ∃ (k : Nat) (n d : Int), k ≤ N ∧ s12 = .int .i64 (k : Int) ∧ B2 w wr (.cells #[.int .i64 n, .int .i64 d] 53) (.cells #[.int .i64 0, .int .i64 0] 53) ∧
    wr.heap[g]? = some (.cells (l.map Stp.fn).toArray 105 (0, 0)) ∧ Steps wr l ∧ In (n, d, 0) ∧ (l.take k).foldl (fun r s => s.go r) (vn, vd, 0) = (n, d, 0) ∧ g < w.heap.size

set_option maxRecDepth 100000 in
set_option maxHeartbeats 4000000 in
theorem steps_calls {vn vd : Int} (h1 : I64 vn) (h2 : I64 vd) (l : List Stp) (hl : l.length ≤ 8) (g : Nat) (w : World) (hg : w.heap[g]? = some (.cells (l.map Stp.fn).toArray 105 (0, 0))) (hS : Steps w l) :
    Calls Try.prog 37 #[.agg #[.int .i64 vn, .int .i64 vd], .slice (some ⟨g, 0, none⟩) l.length l.length] w fun e w' => e = ans (l.foldl (fun r s => s.go r) (vn, vd, 0)) ∧ Below w.heap.size w w' := by
  obtain ⟨N, hN⟩ : ∃ N, l.length = N := ⟨_, rfl⟩
  rw [hN] at hl ⊢
  have HN := Lib.hid hN
  clear hN
  have hB := b2_start w (.cells #[.int .i64 vn, .int .i64 vd] 53) (.cells #[.int .i64 0, .int .i64 0] 53)
  go_enter Try.func37, Try.ntmps37
  go_wp2_with fail
  have hglt := blk_lt hg
  have hsb : ∀ s ∈ l, s.b < w.heap.size := fun s hs => blk_lt (hS s hs).1
  have HSB := Lib.hid hsb
  clear hsb
  have hb0 := hB.be
  go_loopw [12] (RelS w l g N vn vd) (fun i _ => N - (intOf i).toNat)
  case atStart => exact ⟨0, vn, vd, Nat.zero_le _, rfl, hB, blk_below hg hb0, hS.step hb0, ⟨h1, h2⟩, rfl, hglt⟩
  case round =>
    clear hB hb0 hg hS
    obtain ⟨k, n, d, hk, rfl, hB, hgr, hSr, hIn, hfold, _⟩ := hrel
    have HF := Lib.hid hfold
    clear hfold
    by_cases hlt : k < N
    · have hkl : k < l.length := by rw [HN.out]; exact hlt
      obtain ⟨s, hs⟩ : ∃ s, l[k]? = some s := ⟨l[k]'hkl, List.getElem?_eq_getElem _⟩
      have hsm : s ∈ l := List.mem_of_getElem? hs
      have hcell : wr.cell? ⟨g, k, none⟩ = some s.fn := by
        rw [blk_cell hgr k, List.getElem?_toArray, List.getElem?_map, hs]
        rfl
      have hdone := done_calls hIn.1 hIn.2 s (hSr s hsm).2 wr (hSr s hsm).1
      have hnext : (l.take (k + 1)).foldl (fun r s => s.go r) (vn, vd, 0) = s.go (n, d, 0) := by
        rw [List.take_add_one, hs, List.foldl_append, HF.out]
        rfl
      have hall : l.foldl (fun r s => s.go r) (vn, vd, 0) = (l.drop (k + 1)).foldl (fun r s => s.go r) (s.go (n, d, 0)) := by
        rw [← hnext, ← List.foldl_append, List.take_append_drop]
      have hzero := @go_zero n d s
      have hIn2 := go_In (s := s) hIn
      obtain ⟨⟨r1, r2, r3⟩, hr⟩ : ∃ r, s.go (n, d, 0) = r := ⟨_, rfl⟩
      rw [hr] at hnext hall hzero hIn2
      simp only [hr, ans] at hdone
      have HNX := Lib.hid hnext
      have HAL := Lib.hid hall
      clear hnext hall hr hs
      have hsz := hB.size
      have a0 : wr.cell? ⟨w.heap.size, 0, none⟩ = some (.int .i64 n) := blk_cell hB.b1 0
      have a1 : wr.cell? ⟨w.heap.size, 1, none⟩ = some (.int .i64 d) := blk_cell hB.b1 1
      unfold Stp.fn at hcell
      obtain ⟨sm, sb, sn, sd⟩ := s
      cases sm
      all_goals dsimp only at hcell hdone
      all_goals (first | rw [if_pos rfl] at hcell | rw [if_neg (by simp)] at hcell)
      all_goals (first | rw [if_pos rfl] at hdone | rw [if_neg (by simp)] at hdone)
      all_goals (go_wp2_with fail)
      all_goals (refine hdone.mono ?_)
      all_goals (rintro e w1 ⟨rfl, hb1⟩)
      all_goals (have hB1 := hB.step hb1)
      all_goals (have hg1 := blk_below hgr hb1)
      all_goals (have hS1 := hSr.step hb1)
      all_goals (have hk2 := blk_new w1 (.cells #[.int .i64 r1, .int .i64 r2] 53))
      all_goals (have hB2 := hB1.step (below_alloc (Below.refl _ _) (.cells #[.int .i64 r1, .int .i64 r2] 53)))
      all_goals (have hg2 := blk_below hg1 (below_alloc (Below.refl _ _) (.cells #[.int .i64 r1, .int .i64 r2] 53)))
      all_goals (have hS2 := hS1.step (below_alloc (Below.refl _ _) (.cells #[.int .i64 r1, .int .i64 r2] 53)))
      all_goals (have hl1 := hB1.size)
      all_goals clear a0 a1 hcell hB1 hg1 hS1 hb1 hdone hB hgr hSr
      all_goals (by_cases h3 : r3 = 0)
      all_goals (try subst h3)
      all_goals (have c0 : (w1.alloc (.cells #[.int .i64 r1, .int .i64 r2] 53)).cell? ⟨w1.heap.size, 0, none⟩ = some (.int .i64 r1) := blk_cell hk2 0)
      all_goals (have c1 : (w1.alloc (.cells #[.int .i64 r1, .int .i64 r2] 53)).cell? ⟨w1.heap.size, 1, none⟩ = some (.int .i64 r2) := blk_cell hk2 1)
      all_goals (have a0 : (w1.alloc (.cells #[.int .i64 r1, .int .i64 r2] 53)).cell? ⟨w.heap.size, 0, none⟩ = some (.int .i64 n) := blk_cell hB2.b1 0)
      all_goals (have af0 : (w1.alloc (.cells #[.int .i64 r1, .int .i64 r2] 53)).frozen? ⟨w.heap.size, 0, none⟩ = false := blk_frozen hB2.b1 0)
      all_goals (have a1 : (w1.alloc (.cells #[.int .i64 r1, .int .i64 r2] 53)).cell? ⟨w.heap.size, 1, none⟩ = some (.int .i64 d) := blk_cell hB2.b1 1)
      all_goals (have af1 : (w1.alloc (.cells #[.int .i64 r1, .int .i64 r2] 53)).frozen? ⟨w.heap.size, 1, none⟩ = false := blk_frozen hB2.b1 1)
      all_goals (have z0 : (w1.alloc (.cells #[.int .i64 r1, .int .i64 r2] 53)).cell? ⟨w.heap.size + 1, 0, none⟩ = some (.int .i64 0) := blk_cell hB2.b2 0)
      all_goals (have zf0 : (w1.alloc (.cells #[.int .i64 r1, .int .i64 r2] 53)).frozen? ⟨w.heap.size + 1, 0, none⟩ = false := blk_frozen hB2.b2 0)
      all_goals (have z1 : (w1.alloc (.cells #[.int .i64 r1, .int .i64 r2] 53)).cell? ⟨w.heap.size + 1, 1, none⟩ = some (.int .i64 0) := blk_cell hB2.b2 1)
      all_goals (have zf1 : (w1.alloc (.cells #[.int .i64 r1, .int .i64 r2] 53)).frozen? ⟨w.heap.size + 1, 1, none⟩ = false := blk_frozen hB2.b2 1)
      · have hgne : g ≠ w.heap.size := by omega
        have kb1 := blk_set (blk_set hB2.b1 0 (.int .i64 r1)) 1 (.int .i64 r2)
        have kb2 := blk_far (blk_far hB2.b2 (p := ⟨w.heap.size, 0, none⟩) (by show w.heap.size + 1 ≠ w.heap.size; omega) (.int .i64 r1)) (p := ⟨w.heap.size, 1, none⟩) (by show w.heap.size + 1 ≠ w.heap.size; omega) (.int .i64 r2)
        have kbe := (hB2.be.setCell (p := ⟨w.heap.size, 0, none⟩) (Nat.le_refl _) (.int .i64 r1)).setCell (p := ⟨w.heap.size, 1, none⟩) (Nat.le_refl _) (.int .i64 r2)
        have kg := blk_far (blk_far hg2 (p := ⟨w.heap.size, 0, none⟩) hgne (.int .i64 r1)) (p := ⟨w.heap.size, 1, none⟩) hgne (.int .i64 r2)
        have kS : Steps _ l := fun s hs => ⟨blk_far (blk_far (hS2 s hs).1 (p := ⟨w.heap.size, 0, none⟩) (by have := HSB.out s hs; show s.b ≠ w.heap.size; omega) (.int .i64 r1)) (p := ⟨w.heap.size, 1, none⟩) (by have := HSB.out s hs; show s.b ≠ w.heap.size; omega) (.int .i64 r2), (hS2 s hs).2⟩
        go_wp2_with fail
        refine ⟨⟨k + 1, r1, r2, by omega, by simp, ⟨kb1, kb2, kbe⟩, kg, kS, hIn2, HNX.out, hglt⟩, ?_⟩
        simp [intOf]
        omega
      · have hz := hzero h3
        obtain ⟨rfl, rfl⟩ := hz
        have e3 : (r3 == 0) = false := by simp [h3]
        have hfe := (HAL.out).trans (fold_err (by exact h3) _)
        have HFE := Lib.hid hfe
        clear hfe 
        have hx_ := hB2.b2
        have d_0 : (w1.alloc (.cells #[.int .i64 0, .int .i64 0] 53)).cell? ⟨w.heap.size + 1, 0, none⟩ = some (.int .i64 0) := blk_cell hx_ 0
        have df_0 : (w1.alloc (.cells #[.int .i64 0, .int .i64 0] 53)).frozen? ⟨w.heap.size + 1, 0, none⟩ = false := blk_frozen hx_ 0
        have d_1 : (w1.alloc (.cells #[.int .i64 0, .int .i64 0] 53)).cell? ⟨w.heap.size + 1, 1, none⟩ = some (.int .i64 0) := blk_cell hx_ 1
        have df_1 : (w1.alloc (.cells #[.int .i64 0, .int .i64 0] 53)).frozen? ⟨w.heap.size + 1, 1, none⟩ = false := blk_frozen hx_ 1
        go_wp2_with fail
        have k_ := (blk_set (blk_set hx_ 0 (.int .i64 0)) 1 (.int .i64 0))
        have hB_ := (Below.setCell (Below.setCell hB2.be (p := ⟨w.heap.size + 1, 0, none⟩) ((by show w.heap.size ≤ w.heap.size + 1; omega)) (.int .i64 0)) (p := ⟨w.heap.size + 1, 1, none⟩) ((by show w.heap.size ≤ w.heap.size + 1; omega)) (.int .i64 0))
        obtain ⟨w_, hw_⟩ : ∃ w_, w_ = (World.setCell (World.setCell (w1.alloc (.cells #[.int .i64 0, .int .i64 0] 53)) ⟨w.heap.size + 1, 0, none⟩ (.int .i64 0)) ⟨w.heap.size + 1, 1, none⟩ (.int .i64 0)) := ⟨_, rfl⟩
        rw [← hw_] at k_ hB_
        try rw [← hw_]
        clear hw_
        have s_0 : w_.cell? ⟨w.heap.size + 1, 0, none⟩ = some (.int .i64 0) := blk_cell k_ 0
        have s_1 : w_.cell? ⟨w.heap.size + 1, 1, none⟩ = some (.int .i64 0) := blk_cell k_ 1
        refine bodyPost_ret (by simp [results, Try.results37, go_sem, s_0, s_1]; try rfl) rfl ?_
        rw [HFE.out]
        exact ⟨rfl, hB_⟩
      · have hgne : g ≠ w.heap.size := by omega
        have kb1 := blk_set (blk_set hB2.b1 0 (.int .i64 r1)) 1 (.int .i64 r2)
        have kb2 := blk_far (blk_far hB2.b2 (p := ⟨w.heap.size, 0, none⟩) (by show w.heap.size + 1 ≠ w.heap.size; omega) (.int .i64 r1)) (p := ⟨w.heap.size, 1, none⟩) (by show w.heap.size + 1 ≠ w.heap.size; omega) (.int .i64 r2)
        have kbe := (hB2.be.setCell (p := ⟨w.heap.size, 0, none⟩) (Nat.le_refl _) (.int .i64 r1)).setCell (p := ⟨w.heap.size, 1, none⟩) (Nat.le_refl _) (.int .i64 r2)
        have kg := blk_far (blk_far hg2 (p := ⟨w.heap.size, 0, none⟩) hgne (.int .i64 r1)) (p := ⟨w.heap.size, 1, none⟩) hgne (.int .i64 r2)
        have kS : Steps _ l := fun s hs => ⟨blk_far (blk_far (hS2 s hs).1 (p := ⟨w.heap.size, 0, none⟩) (by have := HSB.out s hs; show s.b ≠ w.heap.size; omega) (.int .i64 r1)) (p := ⟨w.heap.size, 1, none⟩) (by have := HSB.out s hs; show s.b ≠ w.heap.size; omega) (.int .i64 r2), (hS2 s hs).2⟩
        go_wp2_with fail
        refine ⟨⟨k + 1, r1, r2, by omega, by simp, ⟨kb1, kb2, kbe⟩, kg, kS, hIn2, HNX.out, hglt⟩, ?_⟩
        simp [intOf]
        omega
      · have hz := hzero h3
        obtain ⟨rfl, rfl⟩ := hz
        have e3 : (r3 == 0) = false := by simp [h3]
        have hfe := (HAL.out).trans (fold_err (by exact h3) _)
        have HFE := Lib.hid hfe
        clear hfe 
        have hx_ := hB2.b2
        have d_0 : (w1.alloc (.cells #[.int .i64 0, .int .i64 0] 53)).cell? ⟨w.heap.size + 1, 0, none⟩ = some (.int .i64 0) := blk_cell hx_ 0
        have df_0 : (w1.alloc (.cells #[.int .i64 0, .int .i64 0] 53)).frozen? ⟨w.heap.size + 1, 0, none⟩ = false := blk_frozen hx_ 0
        have d_1 : (w1.alloc (.cells #[.int .i64 0, .int .i64 0] 53)).cell? ⟨w.heap.size + 1, 1, none⟩ = some (.int .i64 0) := blk_cell hx_ 1
        have df_1 : (w1.alloc (.cells #[.int .i64 0, .int .i64 0] 53)).frozen? ⟨w.heap.size + 1, 1, none⟩ = false := blk_frozen hx_ 1
        go_wp2_with fail
        have k_ := (blk_set (blk_set hx_ 0 (.int .i64 0)) 1 (.int .i64 0))
        have hB_ := (Below.setCell (Below.setCell hB2.be (p := ⟨w.heap.size + 1, 0, none⟩) ((by show w.heap.size ≤ w.heap.size + 1; omega)) (.int .i64 0)) (p := ⟨w.heap.size + 1, 1, none⟩) ((by show w.heap.size ≤ w.heap.size + 1; omega)) (.int .i64 0))
        obtain ⟨w_, hw_⟩ : ∃ w_, w_ = (World.setCell (World.setCell (w1.alloc (.cells #[.int .i64 0, .int .i64 0] 53)) ⟨w.heap.size + 1, 0, none⟩ (.int .i64 0)) ⟨w.heap.size + 1, 1, none⟩ (.int .i64 0)) := ⟨_, rfl⟩
        rw [← hw_] at k_ hB_
        try rw [← hw_]
        clear hw_
        have s_0 : w_.cell? ⟨w.heap.size + 1, 0, none⟩ = some (.int .i64 0) := blk_cell k_ 0
        have s_1 : w_.cell? ⟨w.heap.size + 1, 1, none⟩ = some (.int .i64 0) := blk_cell k_ 1
        refine bodyPost_ret (by simp [results, Try.results37, go_sem, s_0, s_1]; try rfl) rfl ?_
        rw [HFE.out]
        exact ⟨rfl, hB_⟩
    · obtain rfl : k = N := by omega
      have he : l.foldl (fun r s => s.go r) (vn, vd, 0) = (n, d, 0) := by
        have := HF.out
        rwa [List.take_of_length_le (by rw [HN.out]; omega)] at this
      have HE := Lib.hid he
      clear he
      have a0 : wr.cell? ⟨w.heap.size, 0, none⟩ = some (.int .i64 n) := blk_cell hB.b1 0
      have a1 : wr.cell? ⟨w.heap.size, 1, none⟩ = some (.int .i64 d) := blk_cell hB.b1 1
      have hx_ := hB.b2
      have d_0 : wr.cell? ⟨w.heap.size + 1, 0, none⟩ = some (.int .i64 0) := blk_cell hx_ 0
      have df_0 : wr.frozen? ⟨w.heap.size + 1, 0, none⟩ = false := blk_frozen hx_ 0
      have d_1 : wr.cell? ⟨w.heap.size + 1, 1, none⟩ = some (.int .i64 0) := blk_cell hx_ 1
      have df_1 : wr.frozen? ⟨w.heap.size + 1, 1, none⟩ = false := blk_frozen hx_ 1
      go_wp2_with fail
      have k_ := (blk_set (blk_set hx_ 0 (.int .i64 n)) 1 (.int .i64 d))
      have hB_ := (Below.setCell (Below.setCell hB.be (p := ⟨w.heap.size + 1, 0, none⟩) ((by show w.heap.size ≤ w.heap.size + 1; omega)) (.int .i64 n)) (p := ⟨w.heap.size + 1, 1, none⟩) ((by show w.heap.size ≤ w.heap.size + 1; omega)) (.int .i64 d))
      obtain ⟨w_, hw_⟩ : ∃ w_, w_ = (World.setCell (World.setCell wr ⟨w.heap.size + 1, 0, none⟩ (.int .i64 n)) ⟨w.heap.size + 1, 1, none⟩ (.int .i64 d)) := ⟨_, rfl⟩
      rw [← hw_] at k_ hB_
      try rw [← hw_]
      clear hw_
      have s_0 : w_.cell? ⟨w.heap.size + 1, 0, none⟩ = some (.int .i64 n) := blk_cell k_ 0
      have s_1 : w_.cell? ⟨w.heap.size + 1, 1, none⟩ = some (.int .i64 d) := blk_cell k_ 1
      refine bodyPost_ret (by simp [results, Try.results37, go_sem, s_0, s_1]; try rfl) rfl ?_
      rw [HE.out]
      exact ⟨rfl, hB_⟩
end Go.Proofs.Ytmnohhmnkmnikaa.Unit

/- Arrays of four numbers, compared. -/
set_option linter.unusedVariables false
set_option linter.unusedSimpArgs false
namespace Go.Proofs.Ytmnohhmnkmnikaa.Unit
open Go.RowKit Go.Proofs.Ytmnohhmnkmnikaa.RatPlain
theorem wf_i64 {n : Int} (h : I64 n) : (Lit.int .i64 n).wf = true := by
  unfold I64 at h
  simp [Lit.wf, IntKind.min, IntKind.max, IntKind.signed, IntKind.bits]
  omega
theorem lits4 {a b c d : Int} (ha : I64 a) (hb : I64 b) (hc : I64 c) (hd : I64 d) : Try.prog.keyLits 3 98 [.int .i64 a, .int .i64 b, .int .i64 c, .int .i64 d] = some [.int .i64 a, .int .i64 b, .int .i64 c, .int .i64 d] := by
  have e1 : Try.prog.cellsOf 98 = 4 := by kernel_rfl
  have e2 : Try.prog.cellsOf 3 = 1 := by kernel_rfl
  have one : ∀ n : Int, I64 n → Try.prog.keyLits 2 3 [.int .i64 n] = some [.int .i64 n] := by
    intro n h
    unfold Program.keyLits
    simp only [Try.underlying3]
    simp [wf_i64 h]
  unfold Program.keyLits
  simp only [Try.underlying98, e1, e2]
  rw [if_pos (show [Value.int IntKind.i64 a, Value.int IntKind.i64 b, Value.int IntKind.i64 c, Value.int IntKind.i64 d].length = 4 from rfl)]
  have hr : List.range 4 = [0, 1, 2, 3] := rfl
  rw [hr]
  simp [one a ha, one b hb, one c hc, one d hd]
set_option maxRecDepth 100000 in
theorem eq4 {x0 x1 x2 x3 y0 y1 y2 y3 : Int} (a0 : I64 x0) (a1 : I64 x1) (a2 : I64 x2) (a3 : I64 x3) (b0 : I64 y0) (b1 : I64 y1) (b2 : I64 y2) (b3 : I64 y3) :
    ∀ w, (Op.equalIn 10000 98 (.agg #[.int .i64 x0, .int .i64 x1, .int .i64 x2, .int .i64 x3]) (.agg #[.int .i64 y0, .int .i64 y1, .int .i64 y2, .int .i64 y3])).run Try.prog w = .ok (decide (x0 = y0 ∧ x1 = y1 ∧ x2 = y2 ∧ x3 = y3)) w := by
  intro w
  obtain ⟨r, h1, h2⟩ := run_equalIn_deep (P := Try.prog) 9998 2 98 (by kernel_rfl) w 3 3 (.agg #[.int .i64 x0, .int .i64 x1, .int .i64 x2, .int .i64 x3]) (.agg #[.int .i64 y0, .int .i64 y1, .int .i64 y2, .int .i64 y3]) _ _ (by kernel_rfl) (by kernel_rfl) (lits4 a0 a1 a2 a3) (lits4 b0 b1 b2 b3)
  rw [h1]
  congr 1
  rw [Bool.eq_iff_iff, h2]
  simp
end Go.Proofs.Ytmnohhmnkmnikaa.Unit

/- A conversion (unit.Convert), walked. -/
set_option linter.unusedVariables false
set_option linter.unusedSimpArgs false
namespace Go.Proofs.Ytmnohhmnkmnikaa.Unit
open Go.RowKit Go.Proofs.YtmnohhmnkmnikaaW.PrintWords Go.Proofs.YtmnohhmnkmnikaaW.PrintLast Go.Proofs.Ytmnohhmnkmnikaa.Nats Go.Proofs.Ytmnohhmnkmnikaa.HeapKit Go.Proofs.Ytmnohhmnkmnikaa.RatPlain Go.Proofs.Ytmnohhmnkmnikaa.Scale

section
variable {P : Program} {ops : Array Oper} {o : Oper} {a : Act} {Q : Exit → Act → World → Prop} {Kc : Act → World → Prop}
theorem lit_step {W : World} (hw : Region.wanted o (yielded ops a.tmps) = true) {N : Tmp} (_hd : o.dst = some N) {cs : Array Value} {t : TypeId} {n : Nat}
    (hrun : (execOp a.eval o).run P W = .ok (.value (.slice (some ⟨W.heap.size, 0, none⟩) n n)) (W.alloc (.cells cs t (0, 0))))
    (h : ∀ g, g = W.heap.size → ∀ w1, w1.heap[g]? = some (.cells cs t (0, 0)) → Below W.heap.size W w1 → Kc (a.put o.dst (.slice (some ⟨g, 0, none⟩) n n)) w1) : if Region.wanted o (yielded ops a.tmps) = true then Oper.wp P o a W Kc Q else Kc (a.put o.dst undef) W :=
  event_step hw hrun (h _ rfl _ (blk_new W _) (below_alloc (Below.refl _ _) _))
end
/-- What is known of each unit. -/
def URow.good (u : URow) : Prop := I64 u.fn ∧ I64 u.fd ∧ I64 u.on ∧ I64 u.od ∧ I64 (-u.on) ∧ 0 < u.fn ∧ Rt u.fn u.fd ∧ Rt u.on u.od
instance (u : URow) : Decidable u.good := by unfold URow.good; infer_instance
theorem units_good : ∀ u ∈ units, u.good := by decide +kernel
theorem find_good {s : ByteArray} {u : URow} (h : find s = some u) : u.good := units_good u (List.mem_of_find?_eq_some h)
/-- Of one kind. -/
def likeU (x y : URow) : Prop := x.d0 = y.d0 ∧ x.d1 = y.d1 ∧ x.d2 = y.d2 ∧ x.d3 = y.d3
instance (x y : URow) : Decidable (likeU x y) := by unfold likeU; infer_instance
/-- The steps from one unit to another one. -/
def stepsU (x y : URow) (r : Int × Int × Int) : Int × Int × Int := timesW (plusW (plusW (timesW r x.fn x.fd) x.on x.od) (-y.on) y.od) y.fd y.fn

theorem units_dims : ∀ u ∈ units, I64 u.d0 ∧ I64 u.d1 ∧ I64 u.d2 ∧ I64 u.d3 := by decide +kernel
theorem eqU {a b : ByteArray} {x y : URow} (ha : find a = some x) (hb : find b = some y) : ∀ w, (Op.equalIn 10000 98 (.agg #[.int .i64 x.d0, .int .i64 x.d1, .int .i64 x.d2, .int .i64 x.d3]) (.agg #[.int .i64 y.d0, .int .i64 y.d1, .int .i64 y.d2, .int .i64 y.d3])).run Try.prog w = .ok (decide (likeU x y)) w := by
  have hx := units_dims x (List.mem_of_find?_eq_some ha)
  have hy := units_dims y (List.mem_of_find?_eq_some hb)
  exact eq4 hx.1 hx.2.1 hx.2.2.1 hx.2.2.2 hy.1 hy.2.1 hy.2.2.1 hy.2.2.2

/-- The boxes of a conversion. -/
structure Cv (w wx : World) (vn vd : Int) (p8 p10 : Nat) (x y : URow) : Prop where
  b : B2 w wx (.cells #[.int .i64 vn, .int .i64 vd] 53) (.cells #[.int .i64 0, .int .i64 0] 53)
  k8 : wx.heap[p8]? = some (.cells #[.string x.name, .int .i64 x.d0, .int .i64 x.d1, .int .i64 x.d2, .int .i64 x.d3, .int .i64 x.fn, .int .i64 x.fd, .int .i64 x.on, .int .i64 x.od, .int .i64 x.code] 100 (0, 0))
  k10 : wx.heap[p10]? = some (.cells #[.string y.name, .int .i64 y.d0, .int .i64 y.d1, .int .i64 y.d2, .int .i64 y.d3, .int .i64 y.fn, .int .i64 y.fd, .int .i64 y.on, .int .i64 y.od, .int .i64 y.code] 100 (0, 0))
theorem Cv.step {w wx w2 : World} {vn vd : Int} {p8 p10 : Nat} {x y : URow} (h : Cv w wx vn vd p8 p10 x y) (hb : Below wx.heap.size wx w2) : Cv w w2 vn vd p8 p10 x y :=
  ⟨h.b.step hb, blk_below h.k8 hb, blk_below h.k10 hb⟩

theorem getD_some {x : URow} : (some x).getD zrow = x := rfl
set_option maxRecDepth 100000 in
set_option maxHeartbeats 4000000 in
theorem conv_missing {vn vd : Int} (h1 : I64 vn) (h2 : I64 vd) (a b : ByteArray) (hm : find a = none ∨ find b = none) (w : World) :
    Calls Try.prog 19 #[.agg #[.int .i64 vn, .int .i64 vd], .string a, .string b] w fun e w' => e = ans (0, 0, 4) ∧ Below w.heap.size w w' := by
  obtain ⟨x, ox, hx, hxo⟩ : ∃ x ox, (∀ w, Calls Try.prog 35 #[.string a] w fun e W' => e = .returned (.tuple #[URow.val x, .bool ox]) ∧ Below w.heap.size w W') ∧ (find a).isSome = ox := ⟨_, _, find_calls a, rfl⟩
  obtain ⟨y, oy, hy, hyo⟩ : ∃ x ox, (∀ w, Calls Try.prog 35 #[.string b] w fun e W' => e = .returned (.tuple #[URow.val x, .bool ox]) ∧ Below w.heap.size w W') ∧ (find b).isSome = ox := ⟨_, _, find_calls b, rfl⟩
  have hoo : ox = false ∨ oy = false := by
    rcases hm with h | h
    · left; rw [← hxo, h]; rfl
    · right; rw [← hyo, h]; rfl
  simp only [URow.val] at hx hy
  have FA := Lib.hid hx
  have FB := Lib.hid hy
  clear hx hy hxo hyo hm
  go_enter Try.func19, Try.ntmps19
  go_wp2_with fail
  refine (FA.out _).mono ?_
  rintro e w1 ⟨rfl, hb1⟩
  have hB := (b2_start w (.cells #[.int .i64 vn, .int .i64 vd] 53) (.cells #[.int .i64 0, .int .i64 0] 53)).step hb1
  clear hb1
  have hB2 := hB.step (below_alloc (Below.refl _ _) (.cells #[.string x.name, .int .i64 x.d0, .int .i64 x.d1, .int .i64 x.d2, .int .i64 x.d3, .int .i64 x.fn, .int .i64 x.fd, .int .i64 x.on, .int .i64 x.od, .int .i64 x.code] 100))
  clear hB
  go_wp2_with fail
  refine (FB.out _).mono ?_
  rintro e w2 ⟨rfl, hb2⟩
  have hB3 := hB2.step hb2
  clear hb2 hB2
  have hB := hB3.step (below_alloc (Below.refl _ _) (.cells #[.string y.name, .int .i64 y.d0, .int .i64 y.d1, .int .i64 y.d2, .int .i64 y.d3, .int .i64 y.fn, .int .i64 y.fd, .int .i64 y.on, .int .i64 y.od, .int .i64 y.code] 100))
  clear hB3
  have hoo2 : ox = false ∨ (ox = true ∧ oy = false) := by
    cases ox with
    | false => exact .inl rfl
    | true => exact .inr ⟨rfl, hoo.elim (fun h => by cases h) id⟩
  clear hoo
  rcases hoo2 with rfl | ⟨rfl, rfl⟩
  · skip
    have hx_ := hB.b2
    have d_0 : (w2.alloc (.cells #[.string y.name, .int .i64 y.d0, .int .i64 y.d1, .int .i64 y.d2, .int .i64 y.d3, .int .i64 y.fn, .int .i64 y.fd, .int .i64 y.on, .int .i64 y.od, .int .i64 y.code] 100)).cell? ⟨w.heap.size + 1, 0, none⟩ = some (.int .i64 0) := blk_cell hx_ 0
    have df_0 : (w2.alloc (.cells #[.string y.name, .int .i64 y.d0, .int .i64 y.d1, .int .i64 y.d2, .int .i64 y.d3, .int .i64 y.fn, .int .i64 y.fd, .int .i64 y.on, .int .i64 y.od, .int .i64 y.code] 100)).frozen? ⟨w.heap.size + 1, 0, none⟩ = false := blk_frozen hx_ 0
    have d_1 : (w2.alloc (.cells #[.string y.name, .int .i64 y.d0, .int .i64 y.d1, .int .i64 y.d2, .int .i64 y.d3, .int .i64 y.fn, .int .i64 y.fd, .int .i64 y.on, .int .i64 y.od, .int .i64 y.code] 100)).cell? ⟨w.heap.size + 1, 1, none⟩ = some (.int .i64 0) := blk_cell hx_ 1
    have df_1 : (w2.alloc (.cells #[.string y.name, .int .i64 y.d0, .int .i64 y.d1, .int .i64 y.d2, .int .i64 y.d3, .int .i64 y.fn, .int .i64 y.fd, .int .i64 y.on, .int .i64 y.od, .int .i64 y.code] 100)).frozen? ⟨w.heap.size + 1, 1, none⟩ = false := blk_frozen hx_ 1
    go_wp2_with fail
    have k_ := (blk_set (blk_set hx_ 0 (.int .i64 0)) 1 (.int .i64 0))
    have hB_ := (Below.setCell (Below.setCell hB.be (p := ⟨w.heap.size + 1, 0, none⟩) ((by show w.heap.size ≤ w.heap.size + 1; omega)) (.int .i64 0)) (p := ⟨w.heap.size + 1, 1, none⟩) ((by show w.heap.size ≤ w.heap.size + 1; omega)) (.int .i64 0))
    obtain ⟨w_, hw_⟩ : ∃ w_, w_ = (World.setCell (World.setCell (w2.alloc (.cells #[.string y.name, .int .i64 y.d0, .int .i64 y.d1, .int .i64 y.d2, .int .i64 y.d3, .int .i64 y.fn, .int .i64 y.fd, .int .i64 y.on, .int .i64 y.od, .int .i64 y.code] 100)) ⟨w.heap.size + 1, 0, none⟩ (.int .i64 0)) ⟨w.heap.size + 1, 1, none⟩ (.int .i64 0)) := ⟨_, rfl⟩
    rw [← hw_] at k_ hB_
    try rw [← hw_]
    clear hw_
    have s_0 : w_.cell? ⟨w.heap.size + 1, 0, none⟩ = some (.int .i64 0) := blk_cell k_ 0
    have s_1 : w_.cell? ⟨w.heap.size + 1, 1, none⟩ = some (.int .i64 0) := blk_cell k_ 1
    refine bodyPost_ret (by simp [results, Try.results19, go_sem, s_0, s_1]; try rfl) rfl ?_
    exact ⟨rfl, hB_⟩
  · skip
    have hx_ := hB.b2
    have d_0 : (w2.alloc (.cells #[.string y.name, .int .i64 y.d0, .int .i64 y.d1, .int .i64 y.d2, .int .i64 y.d3, .int .i64 y.fn, .int .i64 y.fd, .int .i64 y.on, .int .i64 y.od, .int .i64 y.code] 100)).cell? ⟨w.heap.size + 1, 0, none⟩ = some (.int .i64 0) := blk_cell hx_ 0
    have df_0 : (w2.alloc (.cells #[.string y.name, .int .i64 y.d0, .int .i64 y.d1, .int .i64 y.d2, .int .i64 y.d3, .int .i64 y.fn, .int .i64 y.fd, .int .i64 y.on, .int .i64 y.od, .int .i64 y.code] 100)).frozen? ⟨w.heap.size + 1, 0, none⟩ = false := blk_frozen hx_ 0
    have d_1 : (w2.alloc (.cells #[.string y.name, .int .i64 y.d0, .int .i64 y.d1, .int .i64 y.d2, .int .i64 y.d3, .int .i64 y.fn, .int .i64 y.fd, .int .i64 y.on, .int .i64 y.od, .int .i64 y.code] 100)).cell? ⟨w.heap.size + 1, 1, none⟩ = some (.int .i64 0) := blk_cell hx_ 1
    have df_1 : (w2.alloc (.cells #[.string y.name, .int .i64 y.d0, .int .i64 y.d1, .int .i64 y.d2, .int .i64 y.d3, .int .i64 y.fn, .int .i64 y.fd, .int .i64 y.on, .int .i64 y.od, .int .i64 y.code] 100)).frozen? ⟨w.heap.size + 1, 1, none⟩ = false := blk_frozen hx_ 1
    go_wp2_with fail
    have k_ := (blk_set (blk_set hx_ 0 (.int .i64 0)) 1 (.int .i64 0))
    have hB_ := (Below.setCell (Below.setCell hB.be (p := ⟨w.heap.size + 1, 0, none⟩) ((by show w.heap.size ≤ w.heap.size + 1; omega)) (.int .i64 0)) (p := ⟨w.heap.size + 1, 1, none⟩) ((by show w.heap.size ≤ w.heap.size + 1; omega)) (.int .i64 0))
    obtain ⟨w_, hw_⟩ : ∃ w_, w_ = (World.setCell (World.setCell (w2.alloc (.cells #[.string y.name, .int .i64 y.d0, .int .i64 y.d1, .int .i64 y.d2, .int .i64 y.d3, .int .i64 y.fn, .int .i64 y.fd, .int .i64 y.on, .int .i64 y.od, .int .i64 y.code] 100)) ⟨w.heap.size + 1, 0, none⟩ (.int .i64 0)) ⟨w.heap.size + 1, 1, none⟩ (.int .i64 0)) := ⟨_, rfl⟩
    rw [← hw_] at k_ hB_
    try rw [← hw_]
    clear hw_
    have s_0 : w_.cell? ⟨w.heap.size + 1, 0, none⟩ = some (.int .i64 0) := blk_cell k_ 0
    have s_1 : w_.cell? ⟨w.heap.size + 1, 1, none⟩ = some (.int .i64 0) := blk_cell k_ 1
    refine bodyPost_ret (by simp [results, Try.results19, go_sem, s_0, s_1]; try rfl) rfl ?_
    exact ⟨rfl, hB_⟩

set_option maxRecDepth 100000 in
set_option maxHeartbeats 4000000 in
theorem conv_unlike {vn vd : Int} (h1 : I64 vn) (h2 : I64 vd) (a b : ByteArray) (x y : URow) (ha : find a = some x) (hb : find b = some y) (hl : ¬ likeU x y) (w : World) :
    Calls Try.prog 19 #[.agg #[.int .i64 vn, .int .i64 vd], .string a, .string b] w fun e w' => e = ans (0, 0, 5) ∧ Below w.heap.size w w' := by
  have hq := eqU ha hb
  simp only [decide_eq_false hl] at hq
  have fa := fun w => find_calls a w
  have fb := fun w => find_calls b w
  simp only [ha, Option.getD_some, Option.isSome_some, URow.val] at fa
  simp only [hb, Option.getD_some, Option.isSome_some, URow.val] at fb
  have FA := Lib.hid fa
  have FB := Lib.hid fb
  clear fa fb
  go_enter Try.func19, Try.ntmps19
  go_wp2_with fail
  refine (FA.out _).mono ?_
  rintro e w1 ⟨rfl, hb1⟩
  have hB := (b2_start w (.cells #[.int .i64 vn, .int .i64 vd] 53) (.cells #[.int .i64 0, .int .i64 0] 53)).step hb1
  clear hb1
  have k1 := blk_new w1 (.cells #[.string x.name, .int .i64 x.d0, .int .i64 x.d1, .int .i64 x.d2, .int .i64 x.d3, .int .i64 x.fn, .int .i64 x.fd, .int .i64 x.on, .int .i64 x.od, .int .i64 x.code] 100)
  have hB2 := hB.step (below_alloc (Below.refl _ _) (.cells #[.string x.name, .int .i64 x.d0, .int .i64 x.d1, .int .i64 x.d2, .int .i64 x.d3, .int .i64 x.fn, .int .i64 x.fd, .int .i64 x.on, .int .i64 x.od, .int .i64 x.code] 100))
  have z1 := hB.size
  clear hB
  go_wp2_with fail
  refine (FB.out _).mono ?_
  rintro e w2 ⟨rfl, hb2⟩
  have hB3 := hB2.step hb2
  have k2 := blk_below k1 hb2
  obtain ⟨p8, hp8⟩ : ∃ p, p = w1.heap.size := ⟨_, rfl⟩
  rw [← hp8] at z1 k2 ⊢
  clear hp8 k1 hb2 hB2
  have hCv : Cv w (w2.alloc (.cells #[.string y.name, .int .i64 y.d0, .int .i64 y.d1, .int .i64 y.d2, .int .i64 y.d3, .int .i64 y.fn, .int .i64 y.fd, .int .i64 y.on, .int .i64 y.od, .int .i64 y.code] 100)) vn vd p8 w2.heap.size x y := ⟨hB3.step (below_alloc (Below.refl _ _) _), blk_alloc k2 _, blk_new w2 _⟩
  clear hB3 k2
  have x0 : (w2.alloc (.cells #[.string y.name, .int .i64 y.d0, .int .i64 y.d1, .int .i64 y.d2, .int .i64 y.d3, .int .i64 y.fn, .int .i64 y.fd, .int .i64 y.on, .int .i64 y.od, .int .i64 y.code] 100)).cell? ⟨p8, 0, none⟩ = some (.string x.name) := blk_cell hCv.k8 0
  have x1 : (w2.alloc (.cells #[.string y.name, .int .i64 y.d0, .int .i64 y.d1, .int .i64 y.d2, .int .i64 y.d3, .int .i64 y.fn, .int .i64 y.fd, .int .i64 y.on, .int .i64 y.od, .int .i64 y.code] 100)).cell? ⟨p8, 1, none⟩ = some (.int .i64 x.d0) := blk_cell hCv.k8 1
  have x2 : (w2.alloc (.cells #[.string y.name, .int .i64 y.d0, .int .i64 y.d1, .int .i64 y.d2, .int .i64 y.d3, .int .i64 y.fn, .int .i64 y.fd, .int .i64 y.on, .int .i64 y.od, .int .i64 y.code] 100)).cell? ⟨p8, 2, none⟩ = some (.int .i64 x.d1) := blk_cell hCv.k8 2
  have x3 : (w2.alloc (.cells #[.string y.name, .int .i64 y.d0, .int .i64 y.d1, .int .i64 y.d2, .int .i64 y.d3, .int .i64 y.fn, .int .i64 y.fd, .int .i64 y.on, .int .i64 y.od, .int .i64 y.code] 100)).cell? ⟨p8, 3, none⟩ = some (.int .i64 x.d2) := blk_cell hCv.k8 3
  have x4 : (w2.alloc (.cells #[.string y.name, .int .i64 y.d0, .int .i64 y.d1, .int .i64 y.d2, .int .i64 y.d3, .int .i64 y.fn, .int .i64 y.fd, .int .i64 y.on, .int .i64 y.od, .int .i64 y.code] 100)).cell? ⟨p8, 4, none⟩ = some (.int .i64 x.d3) := blk_cell hCv.k8 4
  have x5 : (w2.alloc (.cells #[.string y.name, .int .i64 y.d0, .int .i64 y.d1, .int .i64 y.d2, .int .i64 y.d3, .int .i64 y.fn, .int .i64 y.fd, .int .i64 y.on, .int .i64 y.od, .int .i64 y.code] 100)).cell? ⟨p8, 5, none⟩ = some (.int .i64 x.fn) := blk_cell hCv.k8 5
  have x6 : (w2.alloc (.cells #[.string y.name, .int .i64 y.d0, .int .i64 y.d1, .int .i64 y.d2, .int .i64 y.d3, .int .i64 y.fn, .int .i64 y.fd, .int .i64 y.on, .int .i64 y.od, .int .i64 y.code] 100)).cell? ⟨p8, 6, none⟩ = some (.int .i64 x.fd) := blk_cell hCv.k8 6
  have x7 : (w2.alloc (.cells #[.string y.name, .int .i64 y.d0, .int .i64 y.d1, .int .i64 y.d2, .int .i64 y.d3, .int .i64 y.fn, .int .i64 y.fd, .int .i64 y.on, .int .i64 y.od, .int .i64 y.code] 100)).cell? ⟨p8, 7, none⟩ = some (.int .i64 x.on) := blk_cell hCv.k8 7
  have x8 : (w2.alloc (.cells #[.string y.name, .int .i64 y.d0, .int .i64 y.d1, .int .i64 y.d2, .int .i64 y.d3, .int .i64 y.fn, .int .i64 y.fd, .int .i64 y.on, .int .i64 y.od, .int .i64 y.code] 100)).cell? ⟨p8, 8, none⟩ = some (.int .i64 x.od) := blk_cell hCv.k8 8
  have x9 : (w2.alloc (.cells #[.string y.name, .int .i64 y.d0, .int .i64 y.d1, .int .i64 y.d2, .int .i64 y.d3, .int .i64 y.fn, .int .i64 y.fd, .int .i64 y.on, .int .i64 y.od, .int .i64 y.code] 100)).cell? ⟨p8, 9, none⟩ = some (.int .i64 x.code) := blk_cell hCv.k8 9
  have y0 : (w2.alloc (.cells #[.string y.name, .int .i64 y.d0, .int .i64 y.d1, .int .i64 y.d2, .int .i64 y.d3, .int .i64 y.fn, .int .i64 y.fd, .int .i64 y.on, .int .i64 y.od, .int .i64 y.code] 100)).cell? ⟨w2.heap.size, 0, none⟩ = some (.string y.name) := blk_cell hCv.k10 0
  have y1 : (w2.alloc (.cells #[.string y.name, .int .i64 y.d0, .int .i64 y.d1, .int .i64 y.d2, .int .i64 y.d3, .int .i64 y.fn, .int .i64 y.fd, .int .i64 y.on, .int .i64 y.od, .int .i64 y.code] 100)).cell? ⟨w2.heap.size, 1, none⟩ = some (.int .i64 y.d0) := blk_cell hCv.k10 1
  have y2 : (w2.alloc (.cells #[.string y.name, .int .i64 y.d0, .int .i64 y.d1, .int .i64 y.d2, .int .i64 y.d3, .int .i64 y.fn, .int .i64 y.fd, .int .i64 y.on, .int .i64 y.od, .int .i64 y.code] 100)).cell? ⟨w2.heap.size, 2, none⟩ = some (.int .i64 y.d1) := blk_cell hCv.k10 2
  have y3 : (w2.alloc (.cells #[.string y.name, .int .i64 y.d0, .int .i64 y.d1, .int .i64 y.d2, .int .i64 y.d3, .int .i64 y.fn, .int .i64 y.fd, .int .i64 y.on, .int .i64 y.od, .int .i64 y.code] 100)).cell? ⟨w2.heap.size, 3, none⟩ = some (.int .i64 y.d2) := blk_cell hCv.k10 3
  have y4 : (w2.alloc (.cells #[.string y.name, .int .i64 y.d0, .int .i64 y.d1, .int .i64 y.d2, .int .i64 y.d3, .int .i64 y.fn, .int .i64 y.fd, .int .i64 y.on, .int .i64 y.od, .int .i64 y.code] 100)).cell? ⟨w2.heap.size, 4, none⟩ = some (.int .i64 y.d3) := blk_cell hCv.k10 4
  have y5 : (w2.alloc (.cells #[.string y.name, .int .i64 y.d0, .int .i64 y.d1, .int .i64 y.d2, .int .i64 y.d3, .int .i64 y.fn, .int .i64 y.fd, .int .i64 y.on, .int .i64 y.od, .int .i64 y.code] 100)).cell? ⟨w2.heap.size, 5, none⟩ = some (.int .i64 y.fn) := blk_cell hCv.k10 5
  have y6 : (w2.alloc (.cells #[.string y.name, .int .i64 y.d0, .int .i64 y.d1, .int .i64 y.d2, .int .i64 y.d3, .int .i64 y.fn, .int .i64 y.fd, .int .i64 y.on, .int .i64 y.od, .int .i64 y.code] 100)).cell? ⟨w2.heap.size, 6, none⟩ = some (.int .i64 y.fd) := blk_cell hCv.k10 6
  have y7 : (w2.alloc (.cells #[.string y.name, .int .i64 y.d0, .int .i64 y.d1, .int .i64 y.d2, .int .i64 y.d3, .int .i64 y.fn, .int .i64 y.fd, .int .i64 y.on, .int .i64 y.od, .int .i64 y.code] 100)).cell? ⟨w2.heap.size, 7, none⟩ = some (.int .i64 y.on) := blk_cell hCv.k10 7
  have y8 : (w2.alloc (.cells #[.string y.name, .int .i64 y.d0, .int .i64 y.d1, .int .i64 y.d2, .int .i64 y.d3, .int .i64 y.fn, .int .i64 y.fd, .int .i64 y.on, .int .i64 y.od, .int .i64 y.code] 100)).cell? ⟨w2.heap.size, 8, none⟩ = some (.int .i64 y.od) := blk_cell hCv.k10 8
  have y9 : (w2.alloc (.cells #[.string y.name, .int .i64 y.d0, .int .i64 y.d1, .int .i64 y.d2, .int .i64 y.d3, .int .i64 y.fn, .int .i64 y.fd, .int .i64 y.on, .int .i64 y.od, .int .i64 y.code] 100)).cell? ⟨w2.heap.size, 9, none⟩ = some (.int .i64 y.code) := blk_cell hCv.k10 9
  have v0 : (w2.alloc (.cells #[.string y.name, .int .i64 y.d0, .int .i64 y.d1, .int .i64 y.d2, .int .i64 y.d3, .int .i64 y.fn, .int .i64 y.fd, .int .i64 y.on, .int .i64 y.od, .int .i64 y.code] 100)).cell? ⟨w.heap.size, 0, none⟩ = some (.int .i64 vn) := blk_cell hCv.b.b1 0
  have v1 : (w2.alloc (.cells #[.string y.name, .int .i64 y.d0, .int .i64 y.d1, .int .i64 y.d2, .int .i64 y.d3, .int .i64 y.fn, .int .i64 y.fd, .int .i64 y.on, .int .i64 y.od, .int .i64 y.code] 100)).cell? ⟨w.heap.size, 1, none⟩ = some (.int .i64 vd) := blk_cell hCv.b.b1 1
  have hB := hCv.b
  have hx_ := hB.b2
  have d_0 : (w2.alloc (.cells #[.string y.name, .int .i64 y.d0, .int .i64 y.d1, .int .i64 y.d2, .int .i64 y.d3, .int .i64 y.fn, .int .i64 y.fd, .int .i64 y.on, .int .i64 y.od, .int .i64 y.code] 100)).cell? ⟨w.heap.size + 1, 0, none⟩ = some (.int .i64 0) := blk_cell hx_ 0
  have df_0 : (w2.alloc (.cells #[.string y.name, .int .i64 y.d0, .int .i64 y.d1, .int .i64 y.d2, .int .i64 y.d3, .int .i64 y.fn, .int .i64 y.fd, .int .i64 y.on, .int .i64 y.od, .int .i64 y.code] 100)).frozen? ⟨w.heap.size + 1, 0, none⟩ = false := blk_frozen hx_ 0
  have d_1 : (w2.alloc (.cells #[.string y.name, .int .i64 y.d0, .int .i64 y.d1, .int .i64 y.d2, .int .i64 y.d3, .int .i64 y.fn, .int .i64 y.fd, .int .i64 y.on, .int .i64 y.od, .int .i64 y.code] 100)).cell? ⟨w.heap.size + 1, 1, none⟩ = some (.int .i64 0) := blk_cell hx_ 1
  have df_1 : (w2.alloc (.cells #[.string y.name, .int .i64 y.d0, .int .i64 y.d1, .int .i64 y.d2, .int .i64 y.d3, .int .i64 y.fn, .int .i64 y.fd, .int .i64 y.on, .int .i64 y.od, .int .i64 y.code] 100)).frozen? ⟨w.heap.size + 1, 1, none⟩ = false := blk_frozen hx_ 1
  go_wp2_with fail
  have k_ := (blk_set (blk_set hx_ 0 (.int .i64 0)) 1 (.int .i64 0))
  have hB_ := (Below.setCell (Below.setCell hB.be (p := ⟨w.heap.size + 1, 0, none⟩) ((by show w.heap.size ≤ w.heap.size + 1; omega)) (.int .i64 0)) (p := ⟨w.heap.size + 1, 1, none⟩) ((by show w.heap.size ≤ w.heap.size + 1; omega)) (.int .i64 0))
  obtain ⟨w_, hw_⟩ : ∃ w_, w_ = (World.setCell (World.setCell (w2.alloc (.cells #[.string y.name, .int .i64 y.d0, .int .i64 y.d1, .int .i64 y.d2, .int .i64 y.d3, .int .i64 y.fn, .int .i64 y.fd, .int .i64 y.on, .int .i64 y.od, .int .i64 y.code] 100)) ⟨w.heap.size + 1, 0, none⟩ (.int .i64 0)) ⟨w.heap.size + 1, 1, none⟩ (.int .i64 0)) := ⟨_, rfl⟩
  rw [← hw_] at k_ hB_
  try rw [← hw_]
  clear hw_
  have s_0 : w_.cell? ⟨w.heap.size + 1, 0, none⟩ = some (.int .i64 0) := blk_cell k_ 0
  have s_1 : w_.cell? ⟨w.heap.size + 1, 1, none⟩ = some (.int .i64 0) := blk_cell k_ 1
  refine bodyPost_ret (by simp [results, Try.results19, go_sem, s_0, s_1]; try rfl) rfl ?_
  exact ⟨rfl, hB_⟩

set_option maxRecDepth 100000 in
set_option maxHeartbeats 4000000 in
theorem conv_wrong {vn vd : Int} (h1 : I64 vn) (h2 : I64 vd) (a b : ByteArray) (x y : URow) (ha : find a = some x) (hb : find b = some y) (hl : likeU x y) (hv : ¬ Rt vn vd) (w : World) :
    Calls Try.prog 19 #[.agg #[.int .i64 vn, .int .i64 vd], .string a, .string b] w fun e w' => e = ans (0, 0, 1) ∧ Below w.heap.size w w' := by
  have hq := eqU ha hb
  simp only [decide_eq_true hl] at hq
  have hrv := fun w => right_calls h1 h2 w
  simp only [decide_eq_false hv] at hrv
  have HRV := Lib.hid hrv
  clear hrv
  have fa := fun w => find_calls a w
  have fb := fun w => find_calls b w
  simp only [ha, Option.getD_some, Option.isSome_some, URow.val] at fa
  simp only [hb, Option.getD_some, Option.isSome_some, URow.val] at fb
  have FA := Lib.hid fa
  have FB := Lib.hid fb
  clear fa fb
  go_enter Try.func19, Try.ntmps19
  go_wp2_with fail
  refine (FA.out _).mono ?_
  rintro e w1 ⟨rfl, hb1⟩
  have hB := (b2_start w (.cells #[.int .i64 vn, .int .i64 vd] 53) (.cells #[.int .i64 0, .int .i64 0] 53)).step hb1
  clear hb1
  have k1 := blk_new w1 (.cells #[.string x.name, .int .i64 x.d0, .int .i64 x.d1, .int .i64 x.d2, .int .i64 x.d3, .int .i64 x.fn, .int .i64 x.fd, .int .i64 x.on, .int .i64 x.od, .int .i64 x.code] 100)
  have hB2 := hB.step (below_alloc (Below.refl _ _) (.cells #[.string x.name, .int .i64 x.d0, .int .i64 x.d1, .int .i64 x.d2, .int .i64 x.d3, .int .i64 x.fn, .int .i64 x.fd, .int .i64 x.on, .int .i64 x.od, .int .i64 x.code] 100))
  have z1 := hB.size
  clear hB
  go_wp2_with fail
  refine (FB.out _).mono ?_
  rintro e w2 ⟨rfl, hb2⟩
  have hB3 := hB2.step hb2
  have k2 := blk_below k1 hb2
  obtain ⟨p8, hp8⟩ : ∃ p, p = w1.heap.size := ⟨_, rfl⟩
  rw [← hp8] at z1 k2 ⊢
  clear hp8 k1 hb2 hB2
  have hCv : Cv w (w2.alloc (.cells #[.string y.name, .int .i64 y.d0, .int .i64 y.d1, .int .i64 y.d2, .int .i64 y.d3, .int .i64 y.fn, .int .i64 y.fd, .int .i64 y.on, .int .i64 y.od, .int .i64 y.code] 100)) vn vd p8 w2.heap.size x y := ⟨hB3.step (below_alloc (Below.refl _ _) _), blk_alloc k2 _, blk_new w2 _⟩
  have k2k := k2
  clear hB3 k2
  have x0 : (w2.alloc (.cells #[.string y.name, .int .i64 y.d0, .int .i64 y.d1, .int .i64 y.d2, .int .i64 y.d3, .int .i64 y.fn, .int .i64 y.fd, .int .i64 y.on, .int .i64 y.od, .int .i64 y.code] 100)).cell? ⟨p8, 0, none⟩ = some (.string x.name) := blk_cell hCv.k8 0
  have x1 : (w2.alloc (.cells #[.string y.name, .int .i64 y.d0, .int .i64 y.d1, .int .i64 y.d2, .int .i64 y.d3, .int .i64 y.fn, .int .i64 y.fd, .int .i64 y.on, .int .i64 y.od, .int .i64 y.code] 100)).cell? ⟨p8, 1, none⟩ = some (.int .i64 x.d0) := blk_cell hCv.k8 1
  have x2 : (w2.alloc (.cells #[.string y.name, .int .i64 y.d0, .int .i64 y.d1, .int .i64 y.d2, .int .i64 y.d3, .int .i64 y.fn, .int .i64 y.fd, .int .i64 y.on, .int .i64 y.od, .int .i64 y.code] 100)).cell? ⟨p8, 2, none⟩ = some (.int .i64 x.d1) := blk_cell hCv.k8 2
  have x3 : (w2.alloc (.cells #[.string y.name, .int .i64 y.d0, .int .i64 y.d1, .int .i64 y.d2, .int .i64 y.d3, .int .i64 y.fn, .int .i64 y.fd, .int .i64 y.on, .int .i64 y.od, .int .i64 y.code] 100)).cell? ⟨p8, 3, none⟩ = some (.int .i64 x.d2) := blk_cell hCv.k8 3
  have x4 : (w2.alloc (.cells #[.string y.name, .int .i64 y.d0, .int .i64 y.d1, .int .i64 y.d2, .int .i64 y.d3, .int .i64 y.fn, .int .i64 y.fd, .int .i64 y.on, .int .i64 y.od, .int .i64 y.code] 100)).cell? ⟨p8, 4, none⟩ = some (.int .i64 x.d3) := blk_cell hCv.k8 4
  have x5 : (w2.alloc (.cells #[.string y.name, .int .i64 y.d0, .int .i64 y.d1, .int .i64 y.d2, .int .i64 y.d3, .int .i64 y.fn, .int .i64 y.fd, .int .i64 y.on, .int .i64 y.od, .int .i64 y.code] 100)).cell? ⟨p8, 5, none⟩ = some (.int .i64 x.fn) := blk_cell hCv.k8 5
  have x6 : (w2.alloc (.cells #[.string y.name, .int .i64 y.d0, .int .i64 y.d1, .int .i64 y.d2, .int .i64 y.d3, .int .i64 y.fn, .int .i64 y.fd, .int .i64 y.on, .int .i64 y.od, .int .i64 y.code] 100)).cell? ⟨p8, 6, none⟩ = some (.int .i64 x.fd) := blk_cell hCv.k8 6
  have x7 : (w2.alloc (.cells #[.string y.name, .int .i64 y.d0, .int .i64 y.d1, .int .i64 y.d2, .int .i64 y.d3, .int .i64 y.fn, .int .i64 y.fd, .int .i64 y.on, .int .i64 y.od, .int .i64 y.code] 100)).cell? ⟨p8, 7, none⟩ = some (.int .i64 x.on) := blk_cell hCv.k8 7
  have x8 : (w2.alloc (.cells #[.string y.name, .int .i64 y.d0, .int .i64 y.d1, .int .i64 y.d2, .int .i64 y.d3, .int .i64 y.fn, .int .i64 y.fd, .int .i64 y.on, .int .i64 y.od, .int .i64 y.code] 100)).cell? ⟨p8, 8, none⟩ = some (.int .i64 x.od) := blk_cell hCv.k8 8
  have x9 : (w2.alloc (.cells #[.string y.name, .int .i64 y.d0, .int .i64 y.d1, .int .i64 y.d2, .int .i64 y.d3, .int .i64 y.fn, .int .i64 y.fd, .int .i64 y.on, .int .i64 y.od, .int .i64 y.code] 100)).cell? ⟨p8, 9, none⟩ = some (.int .i64 x.code) := blk_cell hCv.k8 9
  have y0 : (w2.alloc (.cells #[.string y.name, .int .i64 y.d0, .int .i64 y.d1, .int .i64 y.d2, .int .i64 y.d3, .int .i64 y.fn, .int .i64 y.fd, .int .i64 y.on, .int .i64 y.od, .int .i64 y.code] 100)).cell? ⟨w2.heap.size, 0, none⟩ = some (.string y.name) := blk_cell hCv.k10 0
  have y1 : (w2.alloc (.cells #[.string y.name, .int .i64 y.d0, .int .i64 y.d1, .int .i64 y.d2, .int .i64 y.d3, .int .i64 y.fn, .int .i64 y.fd, .int .i64 y.on, .int .i64 y.od, .int .i64 y.code] 100)).cell? ⟨w2.heap.size, 1, none⟩ = some (.int .i64 y.d0) := blk_cell hCv.k10 1
  have y2 : (w2.alloc (.cells #[.string y.name, .int .i64 y.d0, .int .i64 y.d1, .int .i64 y.d2, .int .i64 y.d3, .int .i64 y.fn, .int .i64 y.fd, .int .i64 y.on, .int .i64 y.od, .int .i64 y.code] 100)).cell? ⟨w2.heap.size, 2, none⟩ = some (.int .i64 y.d1) := blk_cell hCv.k10 2
  have y3 : (w2.alloc (.cells #[.string y.name, .int .i64 y.d0, .int .i64 y.d1, .int .i64 y.d2, .int .i64 y.d3, .int .i64 y.fn, .int .i64 y.fd, .int .i64 y.on, .int .i64 y.od, .int .i64 y.code] 100)).cell? ⟨w2.heap.size, 3, none⟩ = some (.int .i64 y.d2) := blk_cell hCv.k10 3
  have y4 : (w2.alloc (.cells #[.string y.name, .int .i64 y.d0, .int .i64 y.d1, .int .i64 y.d2, .int .i64 y.d3, .int .i64 y.fn, .int .i64 y.fd, .int .i64 y.on, .int .i64 y.od, .int .i64 y.code] 100)).cell? ⟨w2.heap.size, 4, none⟩ = some (.int .i64 y.d3) := blk_cell hCv.k10 4
  have y5 : (w2.alloc (.cells #[.string y.name, .int .i64 y.d0, .int .i64 y.d1, .int .i64 y.d2, .int .i64 y.d3, .int .i64 y.fn, .int .i64 y.fd, .int .i64 y.on, .int .i64 y.od, .int .i64 y.code] 100)).cell? ⟨w2.heap.size, 5, none⟩ = some (.int .i64 y.fn) := blk_cell hCv.k10 5
  have y6 : (w2.alloc (.cells #[.string y.name, .int .i64 y.d0, .int .i64 y.d1, .int .i64 y.d2, .int .i64 y.d3, .int .i64 y.fn, .int .i64 y.fd, .int .i64 y.on, .int .i64 y.od, .int .i64 y.code] 100)).cell? ⟨w2.heap.size, 6, none⟩ = some (.int .i64 y.fd) := blk_cell hCv.k10 6
  have y7 : (w2.alloc (.cells #[.string y.name, .int .i64 y.d0, .int .i64 y.d1, .int .i64 y.d2, .int .i64 y.d3, .int .i64 y.fn, .int .i64 y.fd, .int .i64 y.on, .int .i64 y.od, .int .i64 y.code] 100)).cell? ⟨w2.heap.size, 7, none⟩ = some (.int .i64 y.on) := blk_cell hCv.k10 7
  have y8 : (w2.alloc (.cells #[.string y.name, .int .i64 y.d0, .int .i64 y.d1, .int .i64 y.d2, .int .i64 y.d3, .int .i64 y.fn, .int .i64 y.fd, .int .i64 y.on, .int .i64 y.od, .int .i64 y.code] 100)).cell? ⟨w2.heap.size, 8, none⟩ = some (.int .i64 y.od) := blk_cell hCv.k10 8
  have y9 : (w2.alloc (.cells #[.string y.name, .int .i64 y.d0, .int .i64 y.d1, .int .i64 y.d2, .int .i64 y.d3, .int .i64 y.fn, .int .i64 y.fd, .int .i64 y.on, .int .i64 y.od, .int .i64 y.code] 100)).cell? ⟨w2.heap.size, 9, none⟩ = some (.int .i64 y.code) := blk_cell hCv.k10 9
  have v0 : (w2.alloc (.cells #[.string y.name, .int .i64 y.d0, .int .i64 y.d1, .int .i64 y.d2, .int .i64 y.d3, .int .i64 y.fn, .int .i64 y.fd, .int .i64 y.on, .int .i64 y.od, .int .i64 y.code] 100)).cell? ⟨w.heap.size, 0, none⟩ = some (.int .i64 vn) := blk_cell hCv.b.b1 0
  have v1 : (w2.alloc (.cells #[.string y.name, .int .i64 y.d0, .int .i64 y.d1, .int .i64 y.d2, .int .i64 y.d3, .int .i64 y.fn, .int .i64 y.fd, .int .i64 y.on, .int .i64 y.od, .int .i64 y.code] 100)).cell? ⟨w.heap.size, 1, none⟩ = some (.int .i64 vd) := blk_cell hCv.b.b1 1
  go_wp2_with fail
  refine (HRV.out _).mono ?_
  rintro e w3 ⟨rfl, hb3⟩
  replace hCv := hCv.step hb3
  obtain ⟨p10, hp10⟩ : ∃ p, p = w2.heap.size := ⟨_, rfl⟩
  have z2 : p8 < w2.heap.size := by
    have := blk_lt k2k
    exact this
  rw [← hp10] at hCv z2 ⊢
  clear hp10 hb3 k2k x0 x1 x2 x3 x4 x5 x6 x7 x8 x9 y0 y1 y2 y3 y4 y5 y6 y7 y8 y9 v0 v1
  have hB := hCv.b
  have hx_ := hB.b2
  have d_0 : w3.cell? ⟨w.heap.size + 1, 0, none⟩ = some (.int .i64 0) := blk_cell hx_ 0
  have df_0 : w3.frozen? ⟨w.heap.size + 1, 0, none⟩ = false := blk_frozen hx_ 0
  have d_1 : w3.cell? ⟨w.heap.size + 1, 1, none⟩ = some (.int .i64 0) := blk_cell hx_ 1
  have df_1 : w3.frozen? ⟨w.heap.size + 1, 1, none⟩ = false := blk_frozen hx_ 1
  go_wp2_with fail
  have k_ := (blk_set (blk_set hx_ 0 (.int .i64 0)) 1 (.int .i64 0))
  have hB_ := (Below.setCell (Below.setCell hB.be (p := ⟨w.heap.size + 1, 0, none⟩) ((by show w.heap.size ≤ w.heap.size + 1; omega)) (.int .i64 0)) (p := ⟨w.heap.size + 1, 1, none⟩) ((by show w.heap.size ≤ w.heap.size + 1; omega)) (.int .i64 0))
  obtain ⟨w_, hw_⟩ : ∃ w_, w_ = (World.setCell (World.setCell w3 ⟨w.heap.size + 1, 0, none⟩ (.int .i64 0)) ⟨w.heap.size + 1, 1, none⟩ (.int .i64 0)) := ⟨_, rfl⟩
  rw [← hw_] at k_ hB_
  try rw [← hw_]
  clear hw_
  have s_0 : w_.cell? ⟨w.heap.size + 1, 0, none⟩ = some (.int .i64 0) := blk_cell k_ 0
  have s_1 : w_.cell? ⟨w.heap.size + 1, 1, none⟩ = some (.int .i64 0) := blk_cell k_ 1
  refine bodyPost_ret (by simp [results, Try.results19, go_sem, s_0, s_1]; try rfl) rfl ?_
  exact ⟨rfl, hB_⟩

set_option maxRecDepth 100000 in
set_option maxHeartbeats 4000000 in
theorem conv_same {vn vd : Int} (h1 : I64 vn) (h2 : I64 vd) (a b : ByteArray) (x y : URow) (ha : find a = some x) (hb : find b = some y) (hl : likeU x y) (hv : Rt vn vd) (hs : a.toList = b.toList) (w : World) :
    Calls Try.prog 19 #[.agg #[.int .i64 vn, .int .i64 vd], .string a, .string b] w fun e w' => e = ans (vn, vd, 0) ∧ Below w.heap.size w w' := by
  have hq := eqU ha hb
  simp only [decide_eq_true hl] at hq
  have ee : (a.toList == b.toList) = true := by simp [hs]
  clear hs
  have hrv := fun w => right_calls h1 h2 w
  simp only [decide_eq_true hv] at hrv
  have HRV := Lib.hid hrv
  clear hrv
  have fa := fun w => find_calls a w
  have fb := fun w => find_calls b w
  simp only [ha, Option.getD_some, Option.isSome_some, URow.val] at fa
  simp only [hb, Option.getD_some, Option.isSome_some, URow.val] at fb
  have FA := Lib.hid fa
  have FB := Lib.hid fb
  clear fa fb
  go_enter Try.func19, Try.ntmps19
  go_wp2_with fail
  refine (FA.out _).mono ?_
  rintro e w1 ⟨rfl, hb1⟩
  have hB := (b2_start w (.cells #[.int .i64 vn, .int .i64 vd] 53) (.cells #[.int .i64 0, .int .i64 0] 53)).step hb1
  clear hb1
  have k1 := blk_new w1 (.cells #[.string x.name, .int .i64 x.d0, .int .i64 x.d1, .int .i64 x.d2, .int .i64 x.d3, .int .i64 x.fn, .int .i64 x.fd, .int .i64 x.on, .int .i64 x.od, .int .i64 x.code] 100)
  have hB2 := hB.step (below_alloc (Below.refl _ _) (.cells #[.string x.name, .int .i64 x.d0, .int .i64 x.d1, .int .i64 x.d2, .int .i64 x.d3, .int .i64 x.fn, .int .i64 x.fd, .int .i64 x.on, .int .i64 x.od, .int .i64 x.code] 100))
  have z1 := hB.size
  clear hB
  go_wp2_with fail
  refine (FB.out _).mono ?_
  rintro e w2 ⟨rfl, hb2⟩
  have hB3 := hB2.step hb2
  have k2 := blk_below k1 hb2
  obtain ⟨p8, hp8⟩ : ∃ p, p = w1.heap.size := ⟨_, rfl⟩
  rw [← hp8] at z1 k2 ⊢
  clear hp8 k1 hb2 hB2
  have hCv : Cv w (w2.alloc (.cells #[.string y.name, .int .i64 y.d0, .int .i64 y.d1, .int .i64 y.d2, .int .i64 y.d3, .int .i64 y.fn, .int .i64 y.fd, .int .i64 y.on, .int .i64 y.od, .int .i64 y.code] 100)) vn vd p8 w2.heap.size x y := ⟨hB3.step (below_alloc (Below.refl _ _) _), blk_alloc k2 _, blk_new w2 _⟩
  have k2k := k2
  clear hB3 k2
  have x0 : (w2.alloc (.cells #[.string y.name, .int .i64 y.d0, .int .i64 y.d1, .int .i64 y.d2, .int .i64 y.d3, .int .i64 y.fn, .int .i64 y.fd, .int .i64 y.on, .int .i64 y.od, .int .i64 y.code] 100)).cell? ⟨p8, 0, none⟩ = some (.string x.name) := blk_cell hCv.k8 0
  have x1 : (w2.alloc (.cells #[.string y.name, .int .i64 y.d0, .int .i64 y.d1, .int .i64 y.d2, .int .i64 y.d3, .int .i64 y.fn, .int .i64 y.fd, .int .i64 y.on, .int .i64 y.od, .int .i64 y.code] 100)).cell? ⟨p8, 1, none⟩ = some (.int .i64 x.d0) := blk_cell hCv.k8 1
  have x2 : (w2.alloc (.cells #[.string y.name, .int .i64 y.d0, .int .i64 y.d1, .int .i64 y.d2, .int .i64 y.d3, .int .i64 y.fn, .int .i64 y.fd, .int .i64 y.on, .int .i64 y.od, .int .i64 y.code] 100)).cell? ⟨p8, 2, none⟩ = some (.int .i64 x.d1) := blk_cell hCv.k8 2
  have x3 : (w2.alloc (.cells #[.string y.name, .int .i64 y.d0, .int .i64 y.d1, .int .i64 y.d2, .int .i64 y.d3, .int .i64 y.fn, .int .i64 y.fd, .int .i64 y.on, .int .i64 y.od, .int .i64 y.code] 100)).cell? ⟨p8, 3, none⟩ = some (.int .i64 x.d2) := blk_cell hCv.k8 3
  have x4 : (w2.alloc (.cells #[.string y.name, .int .i64 y.d0, .int .i64 y.d1, .int .i64 y.d2, .int .i64 y.d3, .int .i64 y.fn, .int .i64 y.fd, .int .i64 y.on, .int .i64 y.od, .int .i64 y.code] 100)).cell? ⟨p8, 4, none⟩ = some (.int .i64 x.d3) := blk_cell hCv.k8 4
  have x5 : (w2.alloc (.cells #[.string y.name, .int .i64 y.d0, .int .i64 y.d1, .int .i64 y.d2, .int .i64 y.d3, .int .i64 y.fn, .int .i64 y.fd, .int .i64 y.on, .int .i64 y.od, .int .i64 y.code] 100)).cell? ⟨p8, 5, none⟩ = some (.int .i64 x.fn) := blk_cell hCv.k8 5
  have x6 : (w2.alloc (.cells #[.string y.name, .int .i64 y.d0, .int .i64 y.d1, .int .i64 y.d2, .int .i64 y.d3, .int .i64 y.fn, .int .i64 y.fd, .int .i64 y.on, .int .i64 y.od, .int .i64 y.code] 100)).cell? ⟨p8, 6, none⟩ = some (.int .i64 x.fd) := blk_cell hCv.k8 6
  have x7 : (w2.alloc (.cells #[.string y.name, .int .i64 y.d0, .int .i64 y.d1, .int .i64 y.d2, .int .i64 y.d3, .int .i64 y.fn, .int .i64 y.fd, .int .i64 y.on, .int .i64 y.od, .int .i64 y.code] 100)).cell? ⟨p8, 7, none⟩ = some (.int .i64 x.on) := blk_cell hCv.k8 7
  have x8 : (w2.alloc (.cells #[.string y.name, .int .i64 y.d0, .int .i64 y.d1, .int .i64 y.d2, .int .i64 y.d3, .int .i64 y.fn, .int .i64 y.fd, .int .i64 y.on, .int .i64 y.od, .int .i64 y.code] 100)).cell? ⟨p8, 8, none⟩ = some (.int .i64 x.od) := blk_cell hCv.k8 8
  have x9 : (w2.alloc (.cells #[.string y.name, .int .i64 y.d0, .int .i64 y.d1, .int .i64 y.d2, .int .i64 y.d3, .int .i64 y.fn, .int .i64 y.fd, .int .i64 y.on, .int .i64 y.od, .int .i64 y.code] 100)).cell? ⟨p8, 9, none⟩ = some (.int .i64 x.code) := blk_cell hCv.k8 9
  have y0 : (w2.alloc (.cells #[.string y.name, .int .i64 y.d0, .int .i64 y.d1, .int .i64 y.d2, .int .i64 y.d3, .int .i64 y.fn, .int .i64 y.fd, .int .i64 y.on, .int .i64 y.od, .int .i64 y.code] 100)).cell? ⟨w2.heap.size, 0, none⟩ = some (.string y.name) := blk_cell hCv.k10 0
  have y1 : (w2.alloc (.cells #[.string y.name, .int .i64 y.d0, .int .i64 y.d1, .int .i64 y.d2, .int .i64 y.d3, .int .i64 y.fn, .int .i64 y.fd, .int .i64 y.on, .int .i64 y.od, .int .i64 y.code] 100)).cell? ⟨w2.heap.size, 1, none⟩ = some (.int .i64 y.d0) := blk_cell hCv.k10 1
  have y2 : (w2.alloc (.cells #[.string y.name, .int .i64 y.d0, .int .i64 y.d1, .int .i64 y.d2, .int .i64 y.d3, .int .i64 y.fn, .int .i64 y.fd, .int .i64 y.on, .int .i64 y.od, .int .i64 y.code] 100)).cell? ⟨w2.heap.size, 2, none⟩ = some (.int .i64 y.d1) := blk_cell hCv.k10 2
  have y3 : (w2.alloc (.cells #[.string y.name, .int .i64 y.d0, .int .i64 y.d1, .int .i64 y.d2, .int .i64 y.d3, .int .i64 y.fn, .int .i64 y.fd, .int .i64 y.on, .int .i64 y.od, .int .i64 y.code] 100)).cell? ⟨w2.heap.size, 3, none⟩ = some (.int .i64 y.d2) := blk_cell hCv.k10 3
  have y4 : (w2.alloc (.cells #[.string y.name, .int .i64 y.d0, .int .i64 y.d1, .int .i64 y.d2, .int .i64 y.d3, .int .i64 y.fn, .int .i64 y.fd, .int .i64 y.on, .int .i64 y.od, .int .i64 y.code] 100)).cell? ⟨w2.heap.size, 4, none⟩ = some (.int .i64 y.d3) := blk_cell hCv.k10 4
  have y5 : (w2.alloc (.cells #[.string y.name, .int .i64 y.d0, .int .i64 y.d1, .int .i64 y.d2, .int .i64 y.d3, .int .i64 y.fn, .int .i64 y.fd, .int .i64 y.on, .int .i64 y.od, .int .i64 y.code] 100)).cell? ⟨w2.heap.size, 5, none⟩ = some (.int .i64 y.fn) := blk_cell hCv.k10 5
  have y6 : (w2.alloc (.cells #[.string y.name, .int .i64 y.d0, .int .i64 y.d1, .int .i64 y.d2, .int .i64 y.d3, .int .i64 y.fn, .int .i64 y.fd, .int .i64 y.on, .int .i64 y.od, .int .i64 y.code] 100)).cell? ⟨w2.heap.size, 6, none⟩ = some (.int .i64 y.fd) := blk_cell hCv.k10 6
  have y7 : (w2.alloc (.cells #[.string y.name, .int .i64 y.d0, .int .i64 y.d1, .int .i64 y.d2, .int .i64 y.d3, .int .i64 y.fn, .int .i64 y.fd, .int .i64 y.on, .int .i64 y.od, .int .i64 y.code] 100)).cell? ⟨w2.heap.size, 7, none⟩ = some (.int .i64 y.on) := blk_cell hCv.k10 7
  have y8 : (w2.alloc (.cells #[.string y.name, .int .i64 y.d0, .int .i64 y.d1, .int .i64 y.d2, .int .i64 y.d3, .int .i64 y.fn, .int .i64 y.fd, .int .i64 y.on, .int .i64 y.od, .int .i64 y.code] 100)).cell? ⟨w2.heap.size, 8, none⟩ = some (.int .i64 y.od) := blk_cell hCv.k10 8
  have y9 : (w2.alloc (.cells #[.string y.name, .int .i64 y.d0, .int .i64 y.d1, .int .i64 y.d2, .int .i64 y.d3, .int .i64 y.fn, .int .i64 y.fd, .int .i64 y.on, .int .i64 y.od, .int .i64 y.code] 100)).cell? ⟨w2.heap.size, 9, none⟩ = some (.int .i64 y.code) := blk_cell hCv.k10 9
  have v0 : (w2.alloc (.cells #[.string y.name, .int .i64 y.d0, .int .i64 y.d1, .int .i64 y.d2, .int .i64 y.d3, .int .i64 y.fn, .int .i64 y.fd, .int .i64 y.on, .int .i64 y.od, .int .i64 y.code] 100)).cell? ⟨w.heap.size, 0, none⟩ = some (.int .i64 vn) := blk_cell hCv.b.b1 0
  have v1 : (w2.alloc (.cells #[.string y.name, .int .i64 y.d0, .int .i64 y.d1, .int .i64 y.d2, .int .i64 y.d3, .int .i64 y.fn, .int .i64 y.fd, .int .i64 y.on, .int .i64 y.od, .int .i64 y.code] 100)).cell? ⟨w.heap.size, 1, none⟩ = some (.int .i64 vd) := blk_cell hCv.b.b1 1
  go_wp2_with fail
  refine (HRV.out _).mono ?_
  rintro e w3 ⟨rfl, hb3⟩
  replace hCv := hCv.step hb3
  obtain ⟨p10, hp10⟩ : ∃ p, p = w2.heap.size := ⟨_, rfl⟩
  have z2 : p8 < w2.heap.size := by
    have := blk_lt k2k
    exact this
  rw [← hp10] at hCv z2 ⊢
  clear hp10 hb3 k2k x0 x1 x2 x3 x4 x5 x6 x7 x8 x9 y0 y1 y2 y3 y4 y5 y6 y7 y8 y9 v0 v1
  have x0 : w3.cell? ⟨p8, 0, none⟩ = some (.string x.name) := blk_cell hCv.k8 0
  have x1 : w3.cell? ⟨p8, 1, none⟩ = some (.int .i64 x.d0) := blk_cell hCv.k8 1
  have x2 : w3.cell? ⟨p8, 2, none⟩ = some (.int .i64 x.d1) := blk_cell hCv.k8 2
  have x3 : w3.cell? ⟨p8, 3, none⟩ = some (.int .i64 x.d2) := blk_cell hCv.k8 3
  have x4 : w3.cell? ⟨p8, 4, none⟩ = some (.int .i64 x.d3) := blk_cell hCv.k8 4
  have x5 : w3.cell? ⟨p8, 5, none⟩ = some (.int .i64 x.fn) := blk_cell hCv.k8 5
  have x6 : w3.cell? ⟨p8, 6, none⟩ = some (.int .i64 x.fd) := blk_cell hCv.k8 6
  have x7 : w3.cell? ⟨p8, 7, none⟩ = some (.int .i64 x.on) := blk_cell hCv.k8 7
  have x8 : w3.cell? ⟨p8, 8, none⟩ = some (.int .i64 x.od) := blk_cell hCv.k8 8
  have x9 : w3.cell? ⟨p8, 9, none⟩ = some (.int .i64 x.code) := blk_cell hCv.k8 9
  have y0 : w3.cell? ⟨p10, 0, none⟩ = some (.string y.name) := blk_cell hCv.k10 0
  have y1 : w3.cell? ⟨p10, 1, none⟩ = some (.int .i64 y.d0) := blk_cell hCv.k10 1
  have y2 : w3.cell? ⟨p10, 2, none⟩ = some (.int .i64 y.d1) := blk_cell hCv.k10 2
  have y3 : w3.cell? ⟨p10, 3, none⟩ = some (.int .i64 y.d2) := blk_cell hCv.k10 3
  have y4 : w3.cell? ⟨p10, 4, none⟩ = some (.int .i64 y.d3) := blk_cell hCv.k10 4
  have y5 : w3.cell? ⟨p10, 5, none⟩ = some (.int .i64 y.fn) := blk_cell hCv.k10 5
  have y6 : w3.cell? ⟨p10, 6, none⟩ = some (.int .i64 y.fd) := blk_cell hCv.k10 6
  have y7 : w3.cell? ⟨p10, 7, none⟩ = some (.int .i64 y.on) := blk_cell hCv.k10 7
  have y8 : w3.cell? ⟨p10, 8, none⟩ = some (.int .i64 y.od) := blk_cell hCv.k10 8
  have y9 : w3.cell? ⟨p10, 9, none⟩ = some (.int .i64 y.code) := blk_cell hCv.k10 9
  have v0 : w3.cell? ⟨w.heap.size, 0, none⟩ = some (.int .i64 vn) := blk_cell hCv.b.b1 0
  have v1 : w3.cell? ⟨w.heap.size, 1, none⟩ = some (.int .i64 vd) := blk_cell hCv.b.b1 1
  have hB := hCv.b
  have hx_ := hB.b2
  have d_0 : w3.cell? ⟨w.heap.size + 1, 0, none⟩ = some (.int .i64 0) := blk_cell hx_ 0
  have df_0 : w3.frozen? ⟨w.heap.size + 1, 0, none⟩ = false := blk_frozen hx_ 0
  have d_1 : w3.cell? ⟨w.heap.size + 1, 1, none⟩ = some (.int .i64 0) := blk_cell hx_ 1
  have df_1 : w3.frozen? ⟨w.heap.size + 1, 1, none⟩ = false := blk_frozen hx_ 1
  go_wp2_with fail
  have k_ := (blk_set (blk_set hx_ 0 (.int .i64 vn)) 1 (.int .i64 vd))
  have hB_ := (Below.setCell (Below.setCell hB.be (p := ⟨w.heap.size + 1, 0, none⟩) ((by show w.heap.size ≤ w.heap.size + 1; omega)) (.int .i64 vn)) (p := ⟨w.heap.size + 1, 1, none⟩) ((by show w.heap.size ≤ w.heap.size + 1; omega)) (.int .i64 vd))
  obtain ⟨w_, hw_⟩ : ∃ w_, w_ = (World.setCell (World.setCell w3 ⟨w.heap.size + 1, 0, none⟩ (.int .i64 vn)) ⟨w.heap.size + 1, 1, none⟩ (.int .i64 vd)) := ⟨_, rfl⟩
  rw [← hw_] at k_ hB_
  try rw [← hw_]
  clear hw_
  have s_0 : w_.cell? ⟨w.heap.size + 1, 0, none⟩ = some (.int .i64 vn) := blk_cell k_ 0
  have s_1 : w_.cell? ⟨w.heap.size + 1, 1, none⟩ = some (.int .i64 vd) := blk_cell k_ 1
  refine bodyPost_ret (by simp [results, Try.results19, go_sem, s_0, s_1]; try rfl) rfl ?_
  exact ⟨rfl, hB_⟩

structure Cw (w wx : World) (vn vd : Int) (p8 p10 p12 p13 : Nat) (x y : URow) : Prop where
  c : Cv w wx vn vd p8 p10 x y
  k12 : wx.heap[p12]? = some (.cells #[.int .i64 (-y.on), .int .i64 y.od] 53 (0, 0))
  k13 : wx.heap[p13]? = some (.cells #[.int .i64 y.fd, .int .i64 y.fn] 53 (0, 0))
theorem Cw.step {w wx w2 : World} {vn vd : Int} {p8 p10 p12 p13 : Nat} {x y : URow} (h : Cw w wx vn vd p8 p10 p12 p13 x y) (hb : Below wx.heap.size wx w2) : Cw w w2 vn vd p8 p10 p12 p13 x y :=
  ⟨h.c.step hb, blk_below h.k12 hb, blk_below h.k13 hb⟩

set_option maxRecDepth 100000 in
set_option maxHeartbeats 4000000 in
theorem conv_steps {vn vd : Int} (h1 : I64 vn) (h2 : I64 vd) (a b : ByteArray) (x y : URow) (ha : find a = some x) (hb : find b = some y) (hl : likeU x y) (hv : Rt vn vd) (hs : a.toList ≠ b.toList) (w : World) :
    Calls Try.prog 19 #[.agg #[.int .i64 vn, .int .i64 vd], .string a, .string b] w fun e w' => e = ans (stepsU x y (vn, vd, 0)) ∧ Below w.heap.size w w' := by
  have hq := eqU ha hb
  simp only [decide_eq_true hl] at hq
  have ee : (a.toList == b.toList) = false := by simp [hs]
  have gx := find_good ha
  have gy := find_good hb
  obtain ⟨gx1, gx2, gx3, gx4, _⟩ := gx
  obtain ⟨gy1, gy2, gy3, gy4, gy5, _⟩ := gy
  have eno : IntKind.i64.wrap (-y.on) = -y.on := by rw [i64_w]; exact wrap_in gy5
  obtain ⟨⟨r1, r2, r3⟩, hres⟩ : ∃ r, stepsU x y (vn, vd, 0) = r := ⟨_, rfl⟩
  rw [hres]
  have HRES := Lib.hid hres
  clear hs hres
  have hrv := fun w => right_calls h1 h2 w
  simp only [decide_eq_true hv] at hrv
  have HRV := Lib.hid hrv
  clear hrv
  have fa := fun w => find_calls a w
  have fb := fun w => find_calls b w
  simp only [ha, Option.getD_some, Option.isSome_some, URow.val] at fa
  simp only [hb, Option.getD_some, Option.isSome_some, URow.val] at fb
  have FA := Lib.hid fa
  have FB := Lib.hid fb
  clear fa fb
  go_enter Try.func19, Try.ntmps19
  go_wp2_with fail
  refine (FA.out _).mono ?_
  rintro e w1 ⟨rfl, hb1⟩
  have hB := (b2_start w (.cells #[.int .i64 vn, .int .i64 vd] 53) (.cells #[.int .i64 0, .int .i64 0] 53)).step hb1
  clear hb1
  have k1 := blk_new w1 (.cells #[.string x.name, .int .i64 x.d0, .int .i64 x.d1, .int .i64 x.d2, .int .i64 x.d3, .int .i64 x.fn, .int .i64 x.fd, .int .i64 x.on, .int .i64 x.od, .int .i64 x.code] 100)
  have hB2 := hB.step (below_alloc (Below.refl _ _) (.cells #[.string x.name, .int .i64 x.d0, .int .i64 x.d1, .int .i64 x.d2, .int .i64 x.d3, .int .i64 x.fn, .int .i64 x.fd, .int .i64 x.on, .int .i64 x.od, .int .i64 x.code] 100))
  have z1 := hB.size
  clear hB
  go_wp2_with fail
  refine (FB.out _).mono ?_
  rintro e w2 ⟨rfl, hb2⟩
  have hB3 := hB2.step hb2
  have k2 := blk_below k1 hb2
  obtain ⟨p8, hp8⟩ : ∃ p, p = w1.heap.size := ⟨_, rfl⟩
  rw [← hp8] at z1 k2 ⊢
  clear hp8 k1 hb2 hB2
  have hCv : Cv w (w2.alloc (.cells #[.string y.name, .int .i64 y.d0, .int .i64 y.d1, .int .i64 y.d2, .int .i64 y.d3, .int .i64 y.fn, .int .i64 y.fd, .int .i64 y.on, .int .i64 y.od, .int .i64 y.code] 100)) vn vd p8 w2.heap.size x y := ⟨hB3.step (below_alloc (Below.refl _ _) _), blk_alloc k2 _, blk_new w2 _⟩
  have k2k := k2
  clear hB3 k2
  have x0 : (w2.alloc (.cells #[.string y.name, .int .i64 y.d0, .int .i64 y.d1, .int .i64 y.d2, .int .i64 y.d3, .int .i64 y.fn, .int .i64 y.fd, .int .i64 y.on, .int .i64 y.od, .int .i64 y.code] 100)).cell? ⟨p8, 0, none⟩ = some (.string x.name) := blk_cell hCv.k8 0
  have x1 : (w2.alloc (.cells #[.string y.name, .int .i64 y.d0, .int .i64 y.d1, .int .i64 y.d2, .int .i64 y.d3, .int .i64 y.fn, .int .i64 y.fd, .int .i64 y.on, .int .i64 y.od, .int .i64 y.code] 100)).cell? ⟨p8, 1, none⟩ = some (.int .i64 x.d0) := blk_cell hCv.k8 1
  have x2 : (w2.alloc (.cells #[.string y.name, .int .i64 y.d0, .int .i64 y.d1, .int .i64 y.d2, .int .i64 y.d3, .int .i64 y.fn, .int .i64 y.fd, .int .i64 y.on, .int .i64 y.od, .int .i64 y.code] 100)).cell? ⟨p8, 2, none⟩ = some (.int .i64 x.d1) := blk_cell hCv.k8 2
  have x3 : (w2.alloc (.cells #[.string y.name, .int .i64 y.d0, .int .i64 y.d1, .int .i64 y.d2, .int .i64 y.d3, .int .i64 y.fn, .int .i64 y.fd, .int .i64 y.on, .int .i64 y.od, .int .i64 y.code] 100)).cell? ⟨p8, 3, none⟩ = some (.int .i64 x.d2) := blk_cell hCv.k8 3
  have x4 : (w2.alloc (.cells #[.string y.name, .int .i64 y.d0, .int .i64 y.d1, .int .i64 y.d2, .int .i64 y.d3, .int .i64 y.fn, .int .i64 y.fd, .int .i64 y.on, .int .i64 y.od, .int .i64 y.code] 100)).cell? ⟨p8, 4, none⟩ = some (.int .i64 x.d3) := blk_cell hCv.k8 4
  have x5 : (w2.alloc (.cells #[.string y.name, .int .i64 y.d0, .int .i64 y.d1, .int .i64 y.d2, .int .i64 y.d3, .int .i64 y.fn, .int .i64 y.fd, .int .i64 y.on, .int .i64 y.od, .int .i64 y.code] 100)).cell? ⟨p8, 5, none⟩ = some (.int .i64 x.fn) := blk_cell hCv.k8 5
  have x6 : (w2.alloc (.cells #[.string y.name, .int .i64 y.d0, .int .i64 y.d1, .int .i64 y.d2, .int .i64 y.d3, .int .i64 y.fn, .int .i64 y.fd, .int .i64 y.on, .int .i64 y.od, .int .i64 y.code] 100)).cell? ⟨p8, 6, none⟩ = some (.int .i64 x.fd) := blk_cell hCv.k8 6
  have x7 : (w2.alloc (.cells #[.string y.name, .int .i64 y.d0, .int .i64 y.d1, .int .i64 y.d2, .int .i64 y.d3, .int .i64 y.fn, .int .i64 y.fd, .int .i64 y.on, .int .i64 y.od, .int .i64 y.code] 100)).cell? ⟨p8, 7, none⟩ = some (.int .i64 x.on) := blk_cell hCv.k8 7
  have x8 : (w2.alloc (.cells #[.string y.name, .int .i64 y.d0, .int .i64 y.d1, .int .i64 y.d2, .int .i64 y.d3, .int .i64 y.fn, .int .i64 y.fd, .int .i64 y.on, .int .i64 y.od, .int .i64 y.code] 100)).cell? ⟨p8, 8, none⟩ = some (.int .i64 x.od) := blk_cell hCv.k8 8
  have x9 : (w2.alloc (.cells #[.string y.name, .int .i64 y.d0, .int .i64 y.d1, .int .i64 y.d2, .int .i64 y.d3, .int .i64 y.fn, .int .i64 y.fd, .int .i64 y.on, .int .i64 y.od, .int .i64 y.code] 100)).cell? ⟨p8, 9, none⟩ = some (.int .i64 x.code) := blk_cell hCv.k8 9
  have y0 : (w2.alloc (.cells #[.string y.name, .int .i64 y.d0, .int .i64 y.d1, .int .i64 y.d2, .int .i64 y.d3, .int .i64 y.fn, .int .i64 y.fd, .int .i64 y.on, .int .i64 y.od, .int .i64 y.code] 100)).cell? ⟨w2.heap.size, 0, none⟩ = some (.string y.name) := blk_cell hCv.k10 0
  have y1 : (w2.alloc (.cells #[.string y.name, .int .i64 y.d0, .int .i64 y.d1, .int .i64 y.d2, .int .i64 y.d3, .int .i64 y.fn, .int .i64 y.fd, .int .i64 y.on, .int .i64 y.od, .int .i64 y.code] 100)).cell? ⟨w2.heap.size, 1, none⟩ = some (.int .i64 y.d0) := blk_cell hCv.k10 1
  have y2 : (w2.alloc (.cells #[.string y.name, .int .i64 y.d0, .int .i64 y.d1, .int .i64 y.d2, .int .i64 y.d3, .int .i64 y.fn, .int .i64 y.fd, .int .i64 y.on, .int .i64 y.od, .int .i64 y.code] 100)).cell? ⟨w2.heap.size, 2, none⟩ = some (.int .i64 y.d1) := blk_cell hCv.k10 2
  have y3 : (w2.alloc (.cells #[.string y.name, .int .i64 y.d0, .int .i64 y.d1, .int .i64 y.d2, .int .i64 y.d3, .int .i64 y.fn, .int .i64 y.fd, .int .i64 y.on, .int .i64 y.od, .int .i64 y.code] 100)).cell? ⟨w2.heap.size, 3, none⟩ = some (.int .i64 y.d2) := blk_cell hCv.k10 3
  have y4 : (w2.alloc (.cells #[.string y.name, .int .i64 y.d0, .int .i64 y.d1, .int .i64 y.d2, .int .i64 y.d3, .int .i64 y.fn, .int .i64 y.fd, .int .i64 y.on, .int .i64 y.od, .int .i64 y.code] 100)).cell? ⟨w2.heap.size, 4, none⟩ = some (.int .i64 y.d3) := blk_cell hCv.k10 4
  have y5 : (w2.alloc (.cells #[.string y.name, .int .i64 y.d0, .int .i64 y.d1, .int .i64 y.d2, .int .i64 y.d3, .int .i64 y.fn, .int .i64 y.fd, .int .i64 y.on, .int .i64 y.od, .int .i64 y.code] 100)).cell? ⟨w2.heap.size, 5, none⟩ = some (.int .i64 y.fn) := blk_cell hCv.k10 5
  have y6 : (w2.alloc (.cells #[.string y.name, .int .i64 y.d0, .int .i64 y.d1, .int .i64 y.d2, .int .i64 y.d3, .int .i64 y.fn, .int .i64 y.fd, .int .i64 y.on, .int .i64 y.od, .int .i64 y.code] 100)).cell? ⟨w2.heap.size, 6, none⟩ = some (.int .i64 y.fd) := blk_cell hCv.k10 6
  have y7 : (w2.alloc (.cells #[.string y.name, .int .i64 y.d0, .int .i64 y.d1, .int .i64 y.d2, .int .i64 y.d3, .int .i64 y.fn, .int .i64 y.fd, .int .i64 y.on, .int .i64 y.od, .int .i64 y.code] 100)).cell? ⟨w2.heap.size, 7, none⟩ = some (.int .i64 y.on) := blk_cell hCv.k10 7
  have y8 : (w2.alloc (.cells #[.string y.name, .int .i64 y.d0, .int .i64 y.d1, .int .i64 y.d2, .int .i64 y.d3, .int .i64 y.fn, .int .i64 y.fd, .int .i64 y.on, .int .i64 y.od, .int .i64 y.code] 100)).cell? ⟨w2.heap.size, 8, none⟩ = some (.int .i64 y.od) := blk_cell hCv.k10 8
  have y9 : (w2.alloc (.cells #[.string y.name, .int .i64 y.d0, .int .i64 y.d1, .int .i64 y.d2, .int .i64 y.d3, .int .i64 y.fn, .int .i64 y.fd, .int .i64 y.on, .int .i64 y.od, .int .i64 y.code] 100)).cell? ⟨w2.heap.size, 9, none⟩ = some (.int .i64 y.code) := blk_cell hCv.k10 9
  have v0 : (w2.alloc (.cells #[.string y.name, .int .i64 y.d0, .int .i64 y.d1, .int .i64 y.d2, .int .i64 y.d3, .int .i64 y.fn, .int .i64 y.fd, .int .i64 y.on, .int .i64 y.od, .int .i64 y.code] 100)).cell? ⟨w.heap.size, 0, none⟩ = some (.int .i64 vn) := blk_cell hCv.b.b1 0
  have v1 : (w2.alloc (.cells #[.string y.name, .int .i64 y.d0, .int .i64 y.d1, .int .i64 y.d2, .int .i64 y.d3, .int .i64 y.fn, .int .i64 y.fd, .int .i64 y.on, .int .i64 y.od, .int .i64 y.code] 100)).cell? ⟨w.heap.size, 1, none⟩ = some (.int .i64 vd) := blk_cell hCv.b.b1 1
  go_wp2_with fail
  refine (HRV.out _).mono ?_
  rintro e w3 ⟨rfl, hb3⟩
  replace hCv := hCv.step hb3
  obtain ⟨p10, hp10⟩ : ∃ p, p = w2.heap.size := ⟨_, rfl⟩
  have z2 : p8 < w2.heap.size := by
    have := blk_lt k2k
    exact this
  rw [← hp10] at hCv z2 ⊢
  clear hp10 hb3 k2k x0 x1 x2 x3 x4 x5 x6 x7 x8 x9 y0 y1 y2 y3 y4 y5 y6 y7 y8 y9 v0 v1
  have x0 : w3.cell? ⟨p8, 0, none⟩ = some (.string x.name) := blk_cell hCv.k8 0
  have x1 : w3.cell? ⟨p8, 1, none⟩ = some (.int .i64 x.d0) := blk_cell hCv.k8 1
  have x2 : w3.cell? ⟨p8, 2, none⟩ = some (.int .i64 x.d1) := blk_cell hCv.k8 2
  have x3 : w3.cell? ⟨p8, 3, none⟩ = some (.int .i64 x.d2) := blk_cell hCv.k8 3
  have x4 : w3.cell? ⟨p8, 4, none⟩ = some (.int .i64 x.d3) := blk_cell hCv.k8 4
  have x5 : w3.cell? ⟨p8, 5, none⟩ = some (.int .i64 x.fn) := blk_cell hCv.k8 5
  have x6 : w3.cell? ⟨p8, 6, none⟩ = some (.int .i64 x.fd) := blk_cell hCv.k8 6
  have x7 : w3.cell? ⟨p8, 7, none⟩ = some (.int .i64 x.on) := blk_cell hCv.k8 7
  have x8 : w3.cell? ⟨p8, 8, none⟩ = some (.int .i64 x.od) := blk_cell hCv.k8 8
  have x9 : w3.cell? ⟨p8, 9, none⟩ = some (.int .i64 x.code) := blk_cell hCv.k8 9
  have y0 : w3.cell? ⟨p10, 0, none⟩ = some (.string y.name) := blk_cell hCv.k10 0
  have y1 : w3.cell? ⟨p10, 1, none⟩ = some (.int .i64 y.d0) := blk_cell hCv.k10 1
  have y2 : w3.cell? ⟨p10, 2, none⟩ = some (.int .i64 y.d1) := blk_cell hCv.k10 2
  have y3 : w3.cell? ⟨p10, 3, none⟩ = some (.int .i64 y.d2) := blk_cell hCv.k10 3
  have y4 : w3.cell? ⟨p10, 4, none⟩ = some (.int .i64 y.d3) := blk_cell hCv.k10 4
  have y5 : w3.cell? ⟨p10, 5, none⟩ = some (.int .i64 y.fn) := blk_cell hCv.k10 5
  have y6 : w3.cell? ⟨p10, 6, none⟩ = some (.int .i64 y.fd) := blk_cell hCv.k10 6
  have y7 : w3.cell? ⟨p10, 7, none⟩ = some (.int .i64 y.on) := blk_cell hCv.k10 7
  have y8 : w3.cell? ⟨p10, 8, none⟩ = some (.int .i64 y.od) := blk_cell hCv.k10 8
  have y9 : w3.cell? ⟨p10, 9, none⟩ = some (.int .i64 y.code) := blk_cell hCv.k10 9
  have v0 : w3.cell? ⟨w.heap.size, 0, none⟩ = some (.int .i64 vn) := blk_cell hCv.b.b1 0
  have v1 : w3.cell? ⟨w.heap.size, 1, none⟩ = some (.int .i64 vd) := blk_cell hCv.b.b1 1
  have k12 := blk_new w3 (.cells #[.int .i64 (-y.on), .int .i64 y.od] 53)
  have hCv2 := hCv.step (below_alloc (Below.refl _ _) (.cells #[.int .i64 (-y.on), .int .i64 y.od] 53))
  have z0 : (w3.alloc (.cells #[.int .i64 (-y.on), .int .i64 y.od] 53)).cell? ⟨p10, 0, none⟩ = some (.string y.name) := blk_cell hCv2.k10 0
  have z1 : (w3.alloc (.cells #[.int .i64 (-y.on), .int .i64 y.od] 53)).cell? ⟨p10, 1, none⟩ = some (.int .i64 y.d0) := blk_cell hCv2.k10 1
  have z2 : (w3.alloc (.cells #[.int .i64 (-y.on), .int .i64 y.od] 53)).cell? ⟨p10, 2, none⟩ = some (.int .i64 y.d1) := blk_cell hCv2.k10 2
  have z3 : (w3.alloc (.cells #[.int .i64 (-y.on), .int .i64 y.od] 53)).cell? ⟨p10, 3, none⟩ = some (.int .i64 y.d2) := blk_cell hCv2.k10 3
  have z4 : (w3.alloc (.cells #[.int .i64 (-y.on), .int .i64 y.od] 53)).cell? ⟨p10, 4, none⟩ = some (.int .i64 y.d3) := blk_cell hCv2.k10 4
  have z5 : (w3.alloc (.cells #[.int .i64 (-y.on), .int .i64 y.od] 53)).cell? ⟨p10, 5, none⟩ = some (.int .i64 y.fn) := blk_cell hCv2.k10 5
  have z6 : (w3.alloc (.cells #[.int .i64 (-y.on), .int .i64 y.od] 53)).cell? ⟨p10, 6, none⟩ = some (.int .i64 y.fd) := blk_cell hCv2.k10 6
  have z7 : (w3.alloc (.cells #[.int .i64 (-y.on), .int .i64 y.od] 53)).cell? ⟨p10, 7, none⟩ = some (.int .i64 y.on) := blk_cell hCv2.k10 7
  have z8 : (w3.alloc (.cells #[.int .i64 (-y.on), .int .i64 y.od] 53)).cell? ⟨p10, 8, none⟩ = some (.int .i64 y.od) := blk_cell hCv2.k10 8
  have z9 : (w3.alloc (.cells #[.int .i64 (-y.on), .int .i64 y.od] 53)).cell? ⟨p10, 9, none⟩ = some (.int .i64 y.code) := blk_cell hCv2.k10 9
  go_wp2_with fail
  obtain ⟨p12, hp12⟩ : ∃ p, p = w3.heap.size := ⟨_, rfl⟩
  obtain ⟨w4, hw4⟩ : ∃ w4, w4 = w3.alloc (.cells #[.int .i64 (-y.on), .int .i64 y.od] 53) := ⟨_, rfl⟩
  rw [← hw4] at hCv2 k12 ⊢
  have hz4 : w4.heap.size = w3.heap.size + 1 := by rw [hw4]; simp
  rw [← hz4]
  rw [← hp12] at k12 ⊢
  have k13 := blk_new w4 (.cells #[.int .i64 y.fd, .int .i64 y.fn] 53)
  have hCw : Cw w (w4.alloc (.cells #[.int .i64 y.fd, .int .i64 y.fn] 53)) vn vd p8 p10 p12 w4.heap.size x y := ⟨hCv2.step (below_alloc (Below.refl _ _) _), blk_alloc k12 _, k13⟩
  obtain ⟨p13, hp13⟩ : ∃ p, p = w4.heap.size := ⟨_, rfl⟩
  obtain ⟨w5, hw5⟩ : ∃ w5, w5 = w4.alloc (.cells #[.int .i64 y.fd, .int .i64 y.fn] 53) := ⟨_, rfl⟩
  rw [← hp13, ← hw5] at hCw
  rw [← hp13, ← hw5]
  clear hCv hCv2 k12 k13 hw4 hw5 hp12 hp13 hz4 z0 z1 z2 z3 z4 z5 z6 z7 z8 z9 
  refine start_ (n := 17) (S := fun wx => Cw w wx vn vd p8 p10 p12 p13 x y) (ds := [15]) #[false, false, false, false, false, false, false, false, false, false, false, false, false, false, false, false, false] (by kernel_rfl) rfl rfl (hCw.step (below_drew (Below.refl _ _))) (fun hHeld => ?_)
  refine take_ (i := 0) (N := some 64) (v := ?_) (a' := ?_) #[true, false, false, false, false, false, false, false, false, false, false, false, false, false, false, false, false] rfl rfl (by kernel_rfl) (fun _ _ _ h => h) (Or.inl ⟨by rfl, ?_⟩) hHeld ?_ ?_
  rotate_left
  · rintro w' hh
    have x0 : w'.cell? ⟨p8, 0, none⟩ = some (.string x.name) := blk_cell hh.c.k8 0
    have x1 : w'.cell? ⟨p8, 1, none⟩ = some (.int .i64 x.d0) := blk_cell hh.c.k8 1
    have x2 : w'.cell? ⟨p8, 2, none⟩ = some (.int .i64 x.d1) := blk_cell hh.c.k8 2
    have x3 : w'.cell? ⟨p8, 3, none⟩ = some (.int .i64 x.d2) := blk_cell hh.c.k8 3
    have x4 : w'.cell? ⟨p8, 4, none⟩ = some (.int .i64 x.d3) := blk_cell hh.c.k8 4
    have x5 : w'.cell? ⟨p8, 5, none⟩ = some (.int .i64 x.fn) := blk_cell hh.c.k8 5
    have x6 : w'.cell? ⟨p8, 6, none⟩ = some (.int .i64 x.fd) := blk_cell hh.c.k8 6
    have x7 : w'.cell? ⟨p8, 7, none⟩ = some (.int .i64 x.on) := blk_cell hh.c.k8 7
    have x8 : w'.cell? ⟨p8, 8, none⟩ = some (.int .i64 x.od) := blk_cell hh.c.k8 8
    have x9 : w'.cell? ⟨p8, 9, none⟩ = some (.int .i64 x.code) := blk_cell hh.c.k8 9
    have v0 : w'.cell? ⟨w.heap.size, 0, none⟩ = some (.int .i64 vn) := blk_cell hh.c.b.b1 0
    have v1 : w'.cell? ⟨w.heap.size, 1, none⟩ = some (.int .i64 vd) := blk_cell hh.c.b.b1 1
    have l0 : w'.cell? ⟨p12, 0, none⟩ = some (.int .i64 (-y.on)) := blk_cell hh.k12 0
    have l1 : w'.cell? ⟨p12, 1, none⟩ = some (.int .i64 y.od) := blk_cell hh.k12 1
    have o0 : w'.cell? ⟨p13, 0, none⟩ = some (.int .i64 y.fd) := blk_cell hh.k13 0
    have o1 : w'.cell? ⟨p13, 1, none⟩ = some (.int .i64 y.fn) := blk_cell hh.k13 1
    go_simp
    with_reducible rfl
  rotate_left
  · simp only [Act.put, List.setIfInBounds_toArray, List.set_cons_zero, List.set_cons_succ, i64_w, i32_w]
    rfl
  refine pure_ (i := 1) (N := some 65) (v := ?_) (a' := ?_) #[true, true, false, false, false, false, false, false, false, false, false, false, false, false, false, false, false] rfl rfl (by kernel_rfl) (fun _ _ _ h => h) (Or.inl ⟨by rfl, ?_⟩) ?_ ?_
  rotate_left
  · intro w'
    go_simp
    try with_reducible rfl
  rotate_left
  · simp only [Act.put, List.setIfInBounds_toArray, List.set_cons_zero, List.set_cons_succ, i64_w, i32_w]
    rfl
  refine take_ (i := 2) (N := some 66) (v := ?_) (a' := ?_) #[true, true, true, false, false, false, false, false, false, false, false, false, false, false, false, false, false] rfl rfl (by kernel_rfl) (fun _ _ _ h => h) (Or.inl ⟨by rfl, ?_⟩) hHeld ?_ ?_
  rotate_left
  · rintro w' hh
    have x0 : w'.cell? ⟨p8, 0, none⟩ = some (.string x.name) := blk_cell hh.c.k8 0
    have x1 : w'.cell? ⟨p8, 1, none⟩ = some (.int .i64 x.d0) := blk_cell hh.c.k8 1
    have x2 : w'.cell? ⟨p8, 2, none⟩ = some (.int .i64 x.d1) := blk_cell hh.c.k8 2
    have x3 : w'.cell? ⟨p8, 3, none⟩ = some (.int .i64 x.d2) := blk_cell hh.c.k8 3
    have x4 : w'.cell? ⟨p8, 4, none⟩ = some (.int .i64 x.d3) := blk_cell hh.c.k8 4
    have x5 : w'.cell? ⟨p8, 5, none⟩ = some (.int .i64 x.fn) := blk_cell hh.c.k8 5
    have x6 : w'.cell? ⟨p8, 6, none⟩ = some (.int .i64 x.fd) := blk_cell hh.c.k8 6
    have x7 : w'.cell? ⟨p8, 7, none⟩ = some (.int .i64 x.on) := blk_cell hh.c.k8 7
    have x8 : w'.cell? ⟨p8, 8, none⟩ = some (.int .i64 x.od) := blk_cell hh.c.k8 8
    have x9 : w'.cell? ⟨p8, 9, none⟩ = some (.int .i64 x.code) := blk_cell hh.c.k8 9
    have v0 : w'.cell? ⟨w.heap.size, 0, none⟩ = some (.int .i64 vn) := blk_cell hh.c.b.b1 0
    have v1 : w'.cell? ⟨w.heap.size, 1, none⟩ = some (.int .i64 vd) := blk_cell hh.c.b.b1 1
    have l0 : w'.cell? ⟨p12, 0, none⟩ = some (.int .i64 (-y.on)) := blk_cell hh.k12 0
    have l1 : w'.cell? ⟨p12, 1, none⟩ = some (.int .i64 y.od) := blk_cell hh.k12 1
    have o0 : w'.cell? ⟨p13, 0, none⟩ = some (.int .i64 y.fd) := blk_cell hh.k13 0
    have o1 : w'.cell? ⟨p13, 1, none⟩ = some (.int .i64 y.fn) := blk_cell hh.k13 1
    go_simp
    with_reducible rfl
  rotate_left
  · simp only [Act.put, List.setIfInBounds_toArray, List.set_cons_zero, List.set_cons_succ, i64_w, i32_w]
    rfl
  refine pure_ (i := 4) (N := some 68) (v := ?_) (a' := ?_) #[true, true, true, false, true, false, false, false, false, false, false, false, false, false, false, false, false] rfl rfl (by kernel_rfl) (fun _ _ _ h => h) (Or.inl ⟨by rfl, ?_⟩) ?_ ?_
  rotate_left
  · intro w'
    go_simp
    try with_reducible rfl
  rotate_left
  · simp only [Act.put, List.setIfInBounds_toArray, List.set_cons_zero, List.set_cons_succ, i64_w, i32_w]
    rfl
  refine take_ (i := 5) (N := some 69) (v := ?_) (a' := ?_) #[true, true, true, false, true, true, false, false, false, false, false, false, false, false, false, false, false] rfl rfl (by kernel_rfl) (fun _ _ _ h => h) (Or.inl ⟨by rfl, ?_⟩) hHeld ?_ ?_
  rotate_left
  · rintro w' hh
    have x0 : w'.cell? ⟨p8, 0, none⟩ = some (.string x.name) := blk_cell hh.c.k8 0
    have x1 : w'.cell? ⟨p8, 1, none⟩ = some (.int .i64 x.d0) := blk_cell hh.c.k8 1
    have x2 : w'.cell? ⟨p8, 2, none⟩ = some (.int .i64 x.d1) := blk_cell hh.c.k8 2
    have x3 : w'.cell? ⟨p8, 3, none⟩ = some (.int .i64 x.d2) := blk_cell hh.c.k8 3
    have x4 : w'.cell? ⟨p8, 4, none⟩ = some (.int .i64 x.d3) := blk_cell hh.c.k8 4
    have x5 : w'.cell? ⟨p8, 5, none⟩ = some (.int .i64 x.fn) := blk_cell hh.c.k8 5
    have x6 : w'.cell? ⟨p8, 6, none⟩ = some (.int .i64 x.fd) := blk_cell hh.c.k8 6
    have x7 : w'.cell? ⟨p8, 7, none⟩ = some (.int .i64 x.on) := blk_cell hh.c.k8 7
    have x8 : w'.cell? ⟨p8, 8, none⟩ = some (.int .i64 x.od) := blk_cell hh.c.k8 8
    have x9 : w'.cell? ⟨p8, 9, none⟩ = some (.int .i64 x.code) := blk_cell hh.c.k8 9
    have v0 : w'.cell? ⟨w.heap.size, 0, none⟩ = some (.int .i64 vn) := blk_cell hh.c.b.b1 0
    have v1 : w'.cell? ⟨w.heap.size, 1, none⟩ = some (.int .i64 vd) := blk_cell hh.c.b.b1 1
    have l0 : w'.cell? ⟨p12, 0, none⟩ = some (.int .i64 (-y.on)) := blk_cell hh.k12 0
    have l1 : w'.cell? ⟨p12, 1, none⟩ = some (.int .i64 y.od) := blk_cell hh.k12 1
    have o0 : w'.cell? ⟨p13, 0, none⟩ = some (.int .i64 y.fd) := blk_cell hh.k13 0
    have o1 : w'.cell? ⟨p13, 1, none⟩ = some (.int .i64 y.fn) := blk_cell hh.k13 1
    go_simp
    with_reducible rfl
  rotate_left
  · simp only [Act.put, List.setIfInBounds_toArray, List.set_cons_zero, List.set_cons_succ, i64_w, i32_w]
    rfl
  refine take_ (i := 7) (N := some 71) (v := ?_) (a' := ?_) #[true, true, true, false, true, true, false, true, false, false, false, false, false, false, false, false, false] rfl rfl (by kernel_rfl) (fun _ _ _ h => h) (Or.inl ⟨by rfl, ?_⟩) hHeld ?_ ?_
  rotate_left
  · rintro w' hh
    have x0 : w'.cell? ⟨p8, 0, none⟩ = some (.string x.name) := blk_cell hh.c.k8 0
    have x1 : w'.cell? ⟨p8, 1, none⟩ = some (.int .i64 x.d0) := blk_cell hh.c.k8 1
    have x2 : w'.cell? ⟨p8, 2, none⟩ = some (.int .i64 x.d1) := blk_cell hh.c.k8 2
    have x3 : w'.cell? ⟨p8, 3, none⟩ = some (.int .i64 x.d2) := blk_cell hh.c.k8 3
    have x4 : w'.cell? ⟨p8, 4, none⟩ = some (.int .i64 x.d3) := blk_cell hh.c.k8 4
    have x5 : w'.cell? ⟨p8, 5, none⟩ = some (.int .i64 x.fn) := blk_cell hh.c.k8 5
    have x6 : w'.cell? ⟨p8, 6, none⟩ = some (.int .i64 x.fd) := blk_cell hh.c.k8 6
    have x7 : w'.cell? ⟨p8, 7, none⟩ = some (.int .i64 x.on) := blk_cell hh.c.k8 7
    have x8 : w'.cell? ⟨p8, 8, none⟩ = some (.int .i64 x.od) := blk_cell hh.c.k8 8
    have x9 : w'.cell? ⟨p8, 9, none⟩ = some (.int .i64 x.code) := blk_cell hh.c.k8 9
    have v0 : w'.cell? ⟨w.heap.size, 0, none⟩ = some (.int .i64 vn) := blk_cell hh.c.b.b1 0
    have v1 : w'.cell? ⟨w.heap.size, 1, none⟩ = some (.int .i64 vd) := blk_cell hh.c.b.b1 1
    have l0 : w'.cell? ⟨p12, 0, none⟩ = some (.int .i64 (-y.on)) := blk_cell hh.k12 0
    have l1 : w'.cell? ⟨p12, 1, none⟩ = some (.int .i64 y.od) := blk_cell hh.k12 1
    have o0 : w'.cell? ⟨p13, 0, none⟩ = some (.int .i64 y.fd) := blk_cell hh.k13 0
    have o1 : w'.cell? ⟨p13, 1, none⟩ = some (.int .i64 y.fn) := blk_cell hh.k13 1
    go_simp
    with_reducible rfl
  rotate_left
  · simp only [Act.put, List.setIfInBounds_toArray, List.set_cons_zero, List.set_cons_succ, i64_w, i32_w]
    rfl
  refine take_ (i := 9) (N := some 73) (v := ?_) (a' := ?_) #[true, true, true, false, true, true, false, true, false, true, false, false, false, false, false, false, false] rfl rfl (by kernel_rfl) (fun _ _ _ h => h) (Or.inl ⟨by rfl, ?_⟩) hHeld ?_ ?_
  rotate_left
  · rintro w' hh
    have x0 : w'.cell? ⟨p8, 0, none⟩ = some (.string x.name) := blk_cell hh.c.k8 0
    have x1 : w'.cell? ⟨p8, 1, none⟩ = some (.int .i64 x.d0) := blk_cell hh.c.k8 1
    have x2 : w'.cell? ⟨p8, 2, none⟩ = some (.int .i64 x.d1) := blk_cell hh.c.k8 2
    have x3 : w'.cell? ⟨p8, 3, none⟩ = some (.int .i64 x.d2) := blk_cell hh.c.k8 3
    have x4 : w'.cell? ⟨p8, 4, none⟩ = some (.int .i64 x.d3) := blk_cell hh.c.k8 4
    have x5 : w'.cell? ⟨p8, 5, none⟩ = some (.int .i64 x.fn) := blk_cell hh.c.k8 5
    have x6 : w'.cell? ⟨p8, 6, none⟩ = some (.int .i64 x.fd) := blk_cell hh.c.k8 6
    have x7 : w'.cell? ⟨p8, 7, none⟩ = some (.int .i64 x.on) := blk_cell hh.c.k8 7
    have x8 : w'.cell? ⟨p8, 8, none⟩ = some (.int .i64 x.od) := blk_cell hh.c.k8 8
    have x9 : w'.cell? ⟨p8, 9, none⟩ = some (.int .i64 x.code) := blk_cell hh.c.k8 9
    have v0 : w'.cell? ⟨w.heap.size, 0, none⟩ = some (.int .i64 vn) := blk_cell hh.c.b.b1 0
    have v1 : w'.cell? ⟨w.heap.size, 1, none⟩ = some (.int .i64 vd) := blk_cell hh.c.b.b1 1
    have l0 : w'.cell? ⟨p12, 0, none⟩ = some (.int .i64 (-y.on)) := blk_cell hh.k12 0
    have l1 : w'.cell? ⟨p12, 1, none⟩ = some (.int .i64 y.od) := blk_cell hh.k12 1
    have o0 : w'.cell? ⟨p13, 0, none⟩ = some (.int .i64 y.fd) := blk_cell hh.k13 0
    have o1 : w'.cell? ⟨p13, 1, none⟩ = some (.int .i64 y.fn) := blk_cell hh.k13 1
    go_simp
    with_reducible rfl
  rotate_left
  · simp only [Act.put, List.setIfInBounds_toArray, List.set_cons_zero, List.set_cons_succ, i64_w, i32_w]
    rfl
  refine one_ (i := 3) (N := some 67) #[true, true, true, true, true, true, false, true, false, true, false, false, false, false, false, false, false] rfl rfl (by kernel_rfl) (by decide) (fun K hK => ?_)
  refine goes_ Try.func38 (by kernel_rfl) rfl #[.agg #[.int .i64 x.fn, .int .i64 x.fd]] (by rfl) rfl rfl (by (try simp only [List.map_toArray, List.map_cons, List.map_nil]); first | done | rfl) ?_
  refine (times_made x.fn x.fd _).mono ?_
  rintro e wz ⟨b1, rfl, g1, c1, hb_⟩
  refine ⟨_, rfl, ?_⟩
  refine hK.out _ _ (hHeld.step hb_) (fun hHeld => ?_)
  clear hK K
  refine norm_ (a' := ?_) ?_ ?_
  rotate_left
  · show Act.put _ (some 67) _ = _
    simp only [Act.put, List.setIfInBounds_toArray, List.set_cons_zero, List.set_cons_succ, i64_w, i32_w]
    rfl
  refine one_ (i := 6) (N := some 70) #[true, true, true, true, true, true, true, true, false, true, false, false, false, false, false, false, false] rfl rfl (by kernel_rfl) (by decide) (fun K hK => ?_)
  refine goes_ Try.func39 (by kernel_rfl) rfl #[.agg #[.int .i64 x.on, .int .i64 x.od]] (by rfl) rfl rfl (by (try simp only [List.map_toArray, List.map_cons, List.map_nil]); first | done | rfl) ?_
  refine (plus_made x.on x.od _).mono ?_
  rintro e wz ⟨b2, rfl, g2, c2, hb_⟩
  refine ⟨_, rfl, ?_⟩
  replace c1 := blk_below c1 hb_
  refine hK.out _ _ (hHeld.step hb_) (fun hHeld => ?_)
  clear hK K
  refine norm_ (a' := ?_) ?_ ?_
  rotate_left
  · show Act.put _ (some 70) _ = _
    simp only [Act.put, List.setIfInBounds_toArray, List.set_cons_zero, List.set_cons_succ, i64_w, i32_w]
    rfl
  refine one_ (i := 8) (N := some 72) #[true, true, true, true, true, true, true, true, true, true, false, false, false, false, false, false, false] rfl rfl (by kernel_rfl) (by decide) (fun K hK => ?_)
  refine goes_ Try.func39 (by kernel_rfl) rfl #[.agg #[.int .i64 (-y.on), .int .i64 y.od]] (by rfl) rfl rfl (by (try simp only [List.map_toArray, List.map_cons, List.map_nil]); first | done | rfl) ?_
  refine (plus_made (-y.on) y.od _).mono ?_
  rintro e wz ⟨b3, rfl, g3, c3, hb_⟩
  refine ⟨_, rfl, ?_⟩
  replace c1 := blk_below c1 hb_
  replace c2 := blk_below c2 hb_
  refine hK.out _ _ (hHeld.step hb_) (fun hHeld => ?_)
  clear hK K
  refine norm_ (a' := ?_) ?_ ?_
  rotate_left
  · show Act.put _ (some 72) _ = _
    simp only [Act.put, List.setIfInBounds_toArray, List.set_cons_zero, List.set_cons_succ, i64_w, i32_w]
    rfl
  refine one_ (i := 10) (N := some 74) #[true, true, true, true, true, true, true, true, true, true, true, false, false, false, false, false, false] rfl rfl (by kernel_rfl) (by decide) (fun K hK => ?_)
  refine goes_ Try.func38 (by kernel_rfl) rfl #[.agg #[.int .i64 y.fd, .int .i64 y.fn]] (by rfl) rfl rfl (by (try simp only [List.map_toArray, List.map_cons, List.map_nil]); first | done | rfl) ?_
  refine (times_made y.fd y.fn _).mono ?_
  rintro e wz ⟨b4, rfl, g4, c4, hb_⟩
  refine ⟨_, rfl, ?_⟩
  replace c1 := blk_below c1 hb_
  replace c2 := blk_below c2 hb_
  replace c3 := blk_below c3 hb_
  refine hK.out _ _ (hHeld.step hb_) (fun hHeld => ?_)
  clear hK K
  refine norm_ (a' := ?_) ?_ ?_
  rotate_left
  · show Act.put _ (some 74) _ = _
    simp only [Act.put, List.setIfInBounds_toArray, List.set_cons_zero, List.set_cons_succ, i64_w, i32_w]
    rfl
  refine one_ (i := 11) (N := some 75) #[true, true, true, true, true, true, true, true, true, true, true, true, false, false, false, false, false] rfl rfl (by kernel_rfl) (by decide) (fun K hK => ?_)
  refine lit_step (by rfl) (N := 75) rfl (cs := #[Stp.fn ⟨true, b1, x.fn, x.fd⟩, Stp.fn ⟨false, b2, x.on, x.od⟩, Stp.fn ⟨false, b3, -y.on, y.od⟩, Stp.fn ⟨true, b4, y.fd, y.fn⟩]) (t := 105) (n := 4) ?_ ?_
  · first
      | kernel_rfl
      | (go_simp; done)
      | (go_simp; rfl)
  intro g hg wy hbg hbB
  clear hg
  replace c1 := blk_below c1 hbB
  replace c2 := blk_below c2 hbB
  replace c3 := blk_below c3 hbB
  replace c4 := blk_below c4 hbB
  refine hK.out _ _ (hHeld.step hbB) (fun hHeld => ?_)
  clear hK K
  refine norm_ (a' := ?_) ?_ ?_
  rotate_left
  · show Act.put _ (some 75) _ = _
    simp only [Act.put, List.setIfInBounds_toArray, List.set_cons_zero, List.set_cons_succ, i64_w, i32_w]
    rfl
  refine one_ (i := 12) (N := some 76) #[true, true, true, true, true, true, true, true, true, true, true, true, true, false, false, false, false] rfl rfl (by kernel_rfl) (by decide) (fun K hK => ?_)
  refine goes_ Try.func37 (by kernel_rfl) rfl #[.agg #[.int .i64 vn, .int .i64 vd], .slice (some ⟨g, 0, none⟩) 4 4] (by rfl) rfl rfl (by (try simp only [List.map_toArray, List.map_cons, List.map_nil]); first | done | rfl) ?_
  refine (steps_calls h1 h2 [⟨true, b1, x.fn, x.fd⟩, ⟨false, b2, x.on, x.od⟩, ⟨false, b3, -y.on, y.od⟩, ⟨true, b4, y.fd, y.fn⟩] (by show 4 ≤ 8; omega) g _ hbg (by intro s hs; simp only [List.mem_cons, List.not_mem_nil, or_false] at hs; rcases hs with rfl | rfl | rfl | rfl; exact ⟨c1, gx1, gx2⟩; exact ⟨c2, gx3, gx4⟩; exact ⟨c3, gy5, gy4⟩; exact ⟨c4, gy2, gy1⟩)).mono ?_
  rintro e wz ⟨he, hb_⟩
  have he2 : e = ans (r1, r2, r3) := by rw [he, ← HRES.out]; rfl
  subst he2
  have hx2 := (hHeld.step hb_).c.b.b2
  have d0 : wz.cell? ⟨w.heap.size + 1, 0, none⟩ = some (.int .i64 0) := blk_cell hx2 0
  have d1 : wz.cell? ⟨w.heap.size + 1, 1, none⟩ = some (.int .i64 0) := blk_cell hx2 1
  have df0 : wz.frozen? ⟨w.heap.size + 1, 0, none⟩ = false := blk_frozen hx2 0
  have df1 : wz.frozen? ⟨w.heap.size + 1, 1, none⟩ = false := blk_frozen hx2 1
  have hbe := (hHeld.step hb_).c.b.be
  refine ⟨_, rfl, ?_⟩
  refine hK.out _ _ (hHeld.step hb_) (fun hHeld => ?_)
  clear hK K
  refine norm_ (a' := ?_) ?_ ?_
  rotate_left
  · show Act.put _ (some 76) _ = _
    simp only [Act.put, List.setIfInBounds_toArray, List.set_cons_zero, List.set_cons_succ, i64_w, i32_w]
    rfl
  refine pure_ (i := 13) (N := some 77) (v := ?_) (a' := ?_) #[true, true, true, true, true, true, true, true, true, true, true, true, true, true, false, false, false] rfl rfl (by kernel_rfl) (fun _ _ _ h => h) (Or.inl ⟨by rfl, ?_⟩) ?_ ?_
  rotate_left
  · intro w'
    go_simp
    try with_reducible rfl
  rotate_left
  · simp only [Act.put, List.setIfInBounds_toArray, List.set_cons_zero, List.set_cons_succ, i64_w, i32_w]
    rfl
  refine pure_ (i := 14) (N := some 78) (v := ?_) (a' := ?_) #[true, true, true, true, true, true, true, true, true, true, true, true, true, true, true, false, false] rfl rfl (by kernel_rfl) (fun _ _ _ h => h) (Or.inl ⟨by rfl, ?_⟩) ?_ ?_
  rotate_left
  · intro w'
    go_simp
    try with_reducible rfl
  rotate_left
  · simp only [Act.put, List.setIfInBounds_toArray, List.set_cons_zero, List.set_cons_succ, i64_w, i32_w]
    rfl
  refine last_ (i := 15) (N := none) #[true, true, true, true, true, true, true, true, true, true, true, true, true, true, true, true, false] rfl rfl (by kernel_rfl) (by decide) (fun K hK => ?_)
  refine skip_ (w1 := (wz.setCell ⟨w.heap.size + 1, 0, none⟩ (.int .i64 r1)).setCell ⟨w.heap.size + 1, 1, none⟩ (.int .i64 r2)) (by rfl) rfl ?_ ?_
  · first
    | (go_simp; done)
    | (go_simp; rfl)
  refine hK.out _ _ ?_
  clear hK K
  refine norm_ (a' := ?_) ?_ ?_
  rotate_left
  · rfl
  refine pure_ (i := 16) (N := some 7) (v := ?_) (a' := ?_) #[true, true, true, true, true, true, true, true, true, true, true, true, true, true, true, true, true] rfl rfl (by kernel_rfl) (fun _ _ _ h => h) (Or.inl ⟨by rfl, ?_⟩) ?_ ?_
  rotate_left
  · intro w'
    go_simp
    try with_reducible rfl
  rotate_left
  · simp only [Act.put, List.setIfInBounds_toArray, List.set_cons_zero, List.set_cons_succ, i64_w, i32_w]
    rfl
  refine done_ (by kernel_rfl) ?_
  have k7 := blk_set (blk_set hx2 0 (.int .i64 r1)) 1 (.int .i64 r2)
  have hB7 := (hbe.setCell (p := ⟨w.heap.size + 1, 0, none⟩) (by show w.heap.size ≤ w.heap.size + 1; omega) (.int .i64 r1)).setCell (p := ⟨w.heap.size + 1, 1, none⟩) (by show w.heap.size ≤ w.heap.size + 1; omega) (.int .i64 r2)
  obtain ⟨w7, hw7⟩ : ∃ w7, w7 = ((wz.setCell ⟨w.heap.size + 1, 0, none⟩ (.int .i64 r1)).setCell ⟨w.heap.size + 1, 1, none⟩ (.int .i64 r2)) := ⟨_, rfl⟩
  rw [← hw7] at k7 hB7
  try rw [← hw7]
  clear hw7
  have s0 : w7.cell? ⟨w.heap.size + 1, 0, none⟩ = some (.int .i64 r1) := blk_cell k7 0
  have s1 : w7.cell? ⟨w.heap.size + 1, 1, none⟩ = some (.int .i64 r2) := blk_cell k7 1
  go_wp2_with fail
  refine bodyPost_ret (by simp [results, Try.results19, go_sem, s0, s1]; try rfl) rfl ?_
  exact ⟨rfl, hB7⟩

/-- What a conversion answers. -/
def convR (a b : ByteArray) (vn vd : Int) : Int × Int × Int :=
  match find a, find b with
  | some x, some y => if likeU x y then (if Rt vn vd then (if a.toList = b.toList then (vn, vd, 0) else stepsU x y (vn, vd, 0)) else (0, 0, 1)) else (0, 0, 5)
  | _, _ => (0, 0, 4)
theorem conv_calls {vn vd : Int} (h1 : I64 vn) (h2 : I64 vd) (a b : ByteArray) (w : World) :
    Calls Try.prog 19 #[.agg #[.int .i64 vn, .int .i64 vd], .string a, .string b] w fun e w' => e = ans (convR a b vn vd) ∧ Below w.heap.size w w' := by
  unfold convR
  cases hx : find a with
  | none => exact conv_missing h1 h2 a b (.inl hx) w
  | some x =>
    cases hy : find b with
    | none => exact conv_missing h1 h2 a b (.inr hy) w
    | some y =>
      dsimp only
      by_cases hl : likeU x y
      · rw [if_pos hl]
        by_cases hv : Rt vn vd
        · rw [if_pos hv]
          by_cases hs : a.toList = b.toList
          · rw [if_pos hs]
            exact conv_same h1 h2 a b x y hx hy hl hv hs w
          · rw [if_neg hs]
            exact conv_steps h1 h2 a b x y hx hy hl hv hs w
        · rw [if_neg hv]
          exact conv_wrong h1 h2 a b x y hx hy hl hv w
      · rw [if_neg hl]
        exact conv_unlike h1 h2 a b x y hx hy hl w
end Go.Proofs.Ytmnohhmnkmnikaa.Unit

/- What conversions are worth, in plain Lean. -/
set_option linter.unusedVariables false
set_option linter.unusedSimpArgs false
namespace Go.Proofs.Ytmnohhmnkmnikaa.Unit
open Go.Proofs.Ytmnohhmnkmnikaa.RatPlain Go.Proofs.Ytmnohhmnkmnikaa.Scale

theorem find_congr {a b : ByteArray} (h : a.toList = b.toList) : find a = find b := by
  unfold find
  rw [h]
/-- A unit's factor and offset. -/
def URow.F (u : URow) : Rat := RatPlain.val u.fn u.fd
def URow.O (u : URow) : Rat := RatPlain.val u.on u.od
theorem pos_of {n d : Int} (h : Rt n d) (h0 : 0 < n) : 0 < val n d := by
  have h1 := val_lt (Rt_one 0) h
  have e : val 0 1 = 0 := (val_zero (Rt_one 0)).2 rfl
  rw [e] at h1
  rw [h1]
  omega
theorem URow.good.pos {u : URow} (h : u.good) : 0 < u.F := pos_of h.2.2.2.2.2.2.1 h.2.2.2.2.2.1
theorem inv_unit {n d : Int} (h : Rt n d) (h0 : 0 < n) : Rt d n ∧ val d n * val n d = 1 := by
  have h1 := h.1
  refine ⟨⟨h0, by rw [Int.gcd_comm]; exact h.2⟩, ?_⟩
  unfold val
  rw [Rat.divInt_mul_divInt, Int.mul_comm]
  exact Rat.divInt_self' (Int.mul_ne_zero (by omega) (by omega))
/-- The steps go beyond, or are worth what they are to be. -/
theorem steps_cases {x y : URow} (hx : x.good) (hy : y.good) {vn vd : Int} (hv : Rt vn vd) :
    stepsU x y (vn, vd, 0) = (0, 0, 2) ∨ ∃ n d, stepsU x y (vn, vd, 0) = (n, d, 0) ∧ Rt n d ∧ val n d * y.F + y.O = val vn vd * x.F + x.O := by
  obtain ⟨_, _, _, _, _, _, xf, xo⟩ := hx
  obtain ⟨_, _, _, _, _, yp, yf, yo⟩ := hy
  obtain ⟨yi, hyi⟩ := inv_unit yf yp
  unfold stepsU
  rcases timesW_cases (vn, vd, 0) x.fn x.fd xf with ⟨h1, _⟩ | ⟨_, h1, _⟩ | ⟨_, h1⟩ | ⟨_, n1, d1, h1, h2, h3⟩
  · exact absurd rfl h1
  · exact absurd hv h1
  · rw [h1]; exact .inl rfl
  · rw [h1]
    rcases plusW_cases (n1, d1, 0) x.on x.od xo with ⟨k1, _⟩ | ⟨_, k1, _⟩ | ⟨_, k1⟩ | ⟨_, n2, d2, k1, k2, k3⟩
    · exact absurd rfl k1
    · exact absurd h2 k1
    · rw [k1]; exact .inl rfl
    · rw [k1]
      rcases plusW_cases (n2, d2, 0) (-y.on) y.od (Rt_neg yo) with ⟨m1, _⟩ | ⟨_, m1, _⟩ | ⟨_, m1⟩ | ⟨_, n3, d3, m1, m2, m3⟩
      · exact absurd rfl m1
      · exact absurd k2 m1
      · rw [m1]; exact .inl rfl
      · rw [m1]
        rcases timesW_cases (n3, d3, 0) y.fd y.fn yi with ⟨p1, _⟩ | ⟨_, p1, _⟩ | ⟨_, p1⟩ | ⟨_, n4, d4, p1, p2, p3⟩
        · exact absurd rfl p1
        · exact absurd m2 p1
        · exact .inl p1
        · refine .inr ⟨n4, d4, p1, p2, ?_⟩
          dsimp only at h3 k3 m3 p3
          rw [val_neg] at m3
          unfold URow.F URow.O
          rw [p3, m3, k3, h3]
          grind
theorem conv_cases (a b : ByteArray) {vn vd : Int} (hv : Rt vn vd) : ((find a = none ∨ find b = none) ∧ convR a b vn vd = (0, 0, 4)) ∨
    ∃ x y, find a = some x ∧ find b = some y ∧ ((¬ likeU x y ∧ convR a b vn vd = (0, 0, 5)) ∨ (likeU x y ∧ convR a b vn vd = (0, 0, 2) ∧ a.toList ≠ b.toList) ∨
      (likeU x y ∧ ∃ n d, convR a b vn vd = (n, d, 0) ∧ Rt n d ∧ val n d * y.F + y.O = val vn vd * x.F + x.O)) := by
  unfold convR
  cases hx : find a with
  | none => exact .inl ⟨.inl rfl, rfl⟩
  | some x =>
    cases hy : find b with
    | none => exact .inl ⟨.inr rfl, rfl⟩
    | some y =>
      refine .inr ⟨x, y, rfl, rfl, ?_⟩
      dsimp only
      by_cases hl : likeU x y
      · rw [if_pos hl, if_pos hv]
        by_cases hs : a.toList = b.toList
        · rw [if_pos hs]
          have e := find_congr hs
          rw [hx, hy] at e
          cases e
          exact .inr (.inr ⟨hl, vn, vd, rfl, hv, rfl⟩)
        · rw [if_neg hs]
          rcases steps_cases (find_good hx) (find_good hy) hv with h | ⟨n, d, h1, h2, h3⟩
          · exact .inr (.inl ⟨hl, h, hs⟩)
          · exact .inr (.inr ⟨hl, n, d, h1, h2, h3⟩)
      · rw [if_neg hl]
        exact .inl ⟨hl, rfl⟩
theorem conv_ok {a b : ByteArray} {vn vd n d : Int} (hv : Rt vn vd) (h : convR a b vn vd = (n, d, 0)) : ∃ x y, find a = some x ∧ find b = some y ∧ likeU x y ∧ Rt n d ∧ val n d * y.F + y.O = val vn vd * x.F + x.O := by
  rcases conv_cases a b hv with ⟨_, k⟩ | ⟨x, y, hx, hy, ⟨_, k⟩ | ⟨_, k, _⟩ | ⟨hl, n', d', k, k2, k3⟩⟩
  · rw [k] at h; cases h
  · rw [k] at h; cases h
  · rw [k] at h; cases h
  · rw [k] at h
    cases h
    exact ⟨x, y, hx, hy, hl, k2, k3⟩
theorem cancel {p q f o : Rat} (hf : 0 < f) (h : p * f + o = q * f + o) : p = q := by
  have : p * f = q * f := by grind
  have hn : f ≠ 0 := by grind
  grind
/-- Over a third unit. -/
theorem third {a b c : ByteArray} {vn vd x1 x2 y1 y2 z1 z2 : Int} (hv : Rt vn vd) (hx : convR a b vn vd = (x1, x2, 0)) (hy : convR b c x1 x2 = (y1, y2, 0)) (hz : convR a c vn vd = (z1, z2, 0)) : y1 = z1 ∧ y2 = z2 := by
  obtain ⟨ua, ub, fa, fb, _, rx, ex⟩ := conv_ok hv hx
  obtain ⟨ub2, uc, fb2, fc, _, ry, ey⟩ := conv_ok rx hy
  obtain ⟨ua2, uc2, fa2, fc2, _, rz, ez⟩ := conv_ok hv hz
  rw [fb] at fb2; cases fb2
  rw [fa] at fa2; cases fa2
  rw [fc] at fc2; cases fc2
  refine val_inj ry rz (cancel (f := uc.F) (o := uc.O) (find_good fc).pos ?_)
  rw [ey, ex, ez]
/-- There and back. -/
theorem back {a b : ByteArray} {vn vd x1 x2 y1 y2 : Int} (hv : Rt vn vd) (hx : convR a b vn vd = (x1, x2, 0)) (hy : convR b a x1 x2 = (y1, y2, 0)) : y1 = vn ∧ y2 = vd := by
  obtain ⟨ua, ub, fa, fb, _, rx, ex⟩ := conv_ok hv hx
  obtain ⟨ub2, ua2, fb2, fa2, _, ry, ey⟩ := conv_ok rx hy
  rw [fb] at fb2; cases fb2
  rw [fa] at fa2; cases fa2
  refine val_inj ry hv (cancel (f := ua.F) (o := ua.O) (find_good fa).pos ?_)
  rw [ey, ex]
theorem conv_In {a b : ByteArray} {vn vd : Int} (h1 : I64 vn) (h2 : I64 vd) : In (convR a b vn vd) := by
  have h0 : I64 0 := by decide
  unfold convR
  repeat' split
  all_goals first
    | exact ⟨h0, h0⟩
    | exact ⟨h1, h2⟩
    | exact timesW_In (plusW_In (plusW_In (timesW_In ⟨h1, h2⟩)))
theorem awake_conv : convR ⟨#[102]⟩ ⟨#[99]⟩ 212 1 = (100, 1, 0) := by decide +kernel
end Go.Proofs.Ytmnohhmnkmnikaa.Unit

/- What the laws of layer 3 share. -/
set_option linter.unusedVariables false
set_option linter.unusedSimpArgs false
namespace Go.Proofs.Ytmnohhmnkmnikaa.UnitLaw
open Go.RowKit Go.Proofs.YtmnohhmnkmnikaaW.PrintWords Go.Proofs.YtmnohhmnkmnikaaW.PrintLast Go.Proofs.Ytmnohhmnkmnikaa.Nats Go.Proofs.Ytmnohhmnkmnikaa.HeapKit Go.Proofs.Ytmnohhmnkmnikaa.RatPlain Go.Proofs.Ytmnohhmnkmnikaa.Scale Go.Proofs.Ytmnohhmnkmnikaa.Unit

theorem of02_calls (n d : Int) (w : World) : Calls Try.prog 31 #[.agg #[.int .i64 n, .int .i64 d]] w fun e w' => e = .returned (.agg #[.int .i64 n, .int .i64 d]) ∧ Below w.heap.size w w' :=
  POf.lancetlaw02_Of.calls _ _ _ _ w rfl
/-- A conversion's answer, given. -/
theorem conv_as {a b : ByteArray} {vn vd r1 r2 r3 : Int} (h1 : I64 vn) (h2 : I64 vd) (h : convR a b vn vd = (r1, r2, r3)) : (∀ w, Calls Try.prog 19 #[.agg #[.int .i64 vn, .int .i64 vd], .string a, .string b] w fun e w' => e = .returned (.tuple #[.agg #[.int .i64 r1, .int .i64 r2], .int .i64 r3]) ∧ Below w.heap.size w w') ∧ I64 r1 ∧ I64 r2 := by
  have hi := conv_In (a := a) (b := b) h1 h2
  have hc := fun w => conv_calls h1 h2 a b w
  rw [h] at hi
  simp only [h, ans] at hc
  exact ⟨hc, hi.1, hi.2⟩
theorem conv_ex {a b : ByteArray} {vn vd : Int} (h1 : I64 vn) (h2 : I64 vd) : ∃ r1 r2 r3, convR a b vn vd = (r1, r2, r3) ∧ (∀ w, Calls Try.prog 19 #[.agg #[.int .i64 vn, .int .i64 vd], .string a, .string b] w fun e w' => e = .returned (.tuple #[.agg #[.int .i64 r1, .int .i64 r2], .int .i64 r3]) ∧ Below w.heap.size w w') ∧ I64 r1 ∧ I64 r2 :=
  ⟨_, _, _, rfl, conv_as h1 h2 rfl⟩
end Go.Proofs.Ytmnohhmnkmnikaa.UnitLaw

/- The value of a raw number in another unit (scale.In), walked. -/
set_option linter.unusedVariables false
set_option linter.unusedSimpArgs false
namespace Go.Proofs.Ytmnohhmnkmnikaa.Scale
open Go.RowKit Go.Proofs.YtmnohhmnkmnikaaW.PrintWords Go.Proofs.YtmnohhmnkmnikaaW.PrintLast Go.Proofs.Ytmnohhmnkmnikaa.Nats Go.Proofs.Ytmnohhmnkmnikaa.HeapKit Go.Proofs.Ytmnohhmnkmnikaa.RatPlain Go.Proofs.Ytmnohhmnkmnikaa.Unit

theorem value_In {sn sd on od raw : Int} (hraw : I64 raw) : In (valueR sn sd on od raw) := by
  have h0 : I64 0 := by decide
  unfold valueR
  split
  · exact plusW_In (timesW_In ⟨hraw, (by decide : I64 1)⟩)
  · exact ⟨h0, h0⟩
/-- What is answered. -/
def inR (sn sd on od raw : Int) (u tu : ByteArray) : Int × Int × Int := if (valueR sn sd on od raw).2.2 = 0 then convR u tu (valueR sn sd on od raw).1 (valueR sn sd on od raw).2.1 else (0, 0, (valueR sn sd on od raw).2.2)

set_option maxRecDepth 100000 in
set_option maxHeartbeats 4000000 in
theorem in_calls (f0 : ByteArray) (f1 : Int) (f2 : ByteArray) (f3 sn sd on od : Int) (f8 : ByteArray) (raw : Int) (tu : ByteArray) (hsn : I64 sn) (hsd : I64 sd) (hon : I64 on) (hod : I64 od) (hraw : I64 raw) (w : World) :
    Calls Try.prog 46 #[.agg #[.string f0, .int .i64 f1, .string f2, .int .i64 f3, .int .i64 sn, .int .i64 sd, .int .i64 on, .int .i64 od, .string f8], .int .i64 raw, .string tu] w fun e w' => e = ans (inR sn sd on od raw f8 tu) ∧ Below w.heap.size w w' := by
  have hv := fun w => value_calls f0 f1 f2 f3 sn sd on od f8 raw hsn hsd hon hod hraw w
  have hIn := value_In (sn := sn) (sd := sd) (on := on) (od := od) hraw
  obtain ⟨⟨v1, v2, v3⟩, hr⟩ : ∃ r, valueR sn sd on od raw = r := ⟨_, rfl⟩
  simp only [hr, ans] at hv
  rw [hr] at hIn
  obtain ⟨⟨c1, c2, c3⟩, hc⟩ : ∃ r, convR f8 tu v1 v2 = r := ⟨_, rfl⟩
  have hcv := fun w => conv_calls hIn.1 hIn.2 f8 tu w
  simp only [hc, ans] at hcv
  have hres : inR sn sd on od raw f8 tu = if v3 = 0 then (c1, c2, c3) else (0, 0, v3) := by
    unfold inR
    rw [hr]
    dsimp only
    rw [hc]
  have HV := Lib.hid hv
  have HC := Lib.hid hcv
  have HR := Lib.hid hres
  clear hv hcv hres hr hc hIn
  have hB := b2_start w (.cells #[.string f0, .int .i64 f1, .string f2, .int .i64 f3, .int .i64 sn, .int .i64 sd, .int .i64 on, .int .i64 od, .string f8] 55) (.cells #[.int .i64 0, .int .i64 0] 53)
  have a0 : ((w.alloc (.cells #[.string f0, .int .i64 f1, .string f2, .int .i64 f3, .int .i64 sn, .int .i64 sd, .int .i64 on, .int .i64 od, .string f8] 55)).alloc (.cells #[.int .i64 0, .int .i64 0] 53)).cell? ⟨w.heap.size, 0, none⟩ = some (.string f0) := blk_cell hB.b1 0
  have a1 : ((w.alloc (.cells #[.string f0, .int .i64 f1, .string f2, .int .i64 f3, .int .i64 sn, .int .i64 sd, .int .i64 on, .int .i64 od, .string f8] 55)).alloc (.cells #[.int .i64 0, .int .i64 0] 53)).cell? ⟨w.heap.size, 1, none⟩ = some (.int .i64 f1) := blk_cell hB.b1 1
  have a2 : ((w.alloc (.cells #[.string f0, .int .i64 f1, .string f2, .int .i64 f3, .int .i64 sn, .int .i64 sd, .int .i64 on, .int .i64 od, .string f8] 55)).alloc (.cells #[.int .i64 0, .int .i64 0] 53)).cell? ⟨w.heap.size, 2, none⟩ = some (.string f2) := blk_cell hB.b1 2
  have a3 : ((w.alloc (.cells #[.string f0, .int .i64 f1, .string f2, .int .i64 f3, .int .i64 sn, .int .i64 sd, .int .i64 on, .int .i64 od, .string f8] 55)).alloc (.cells #[.int .i64 0, .int .i64 0] 53)).cell? ⟨w.heap.size, 3, none⟩ = some (.int .i64 f3) := blk_cell hB.b1 3
  have a4 : ((w.alloc (.cells #[.string f0, .int .i64 f1, .string f2, .int .i64 f3, .int .i64 sn, .int .i64 sd, .int .i64 on, .int .i64 od, .string f8] 55)).alloc (.cells #[.int .i64 0, .int .i64 0] 53)).cell? ⟨w.heap.size, 4, none⟩ = some (.int .i64 sn) := blk_cell hB.b1 4
  have a5 : ((w.alloc (.cells #[.string f0, .int .i64 f1, .string f2, .int .i64 f3, .int .i64 sn, .int .i64 sd, .int .i64 on, .int .i64 od, .string f8] 55)).alloc (.cells #[.int .i64 0, .int .i64 0] 53)).cell? ⟨w.heap.size, 5, none⟩ = some (.int .i64 sd) := blk_cell hB.b1 5
  have a6 : ((w.alloc (.cells #[.string f0, .int .i64 f1, .string f2, .int .i64 f3, .int .i64 sn, .int .i64 sd, .int .i64 on, .int .i64 od, .string f8] 55)).alloc (.cells #[.int .i64 0, .int .i64 0] 53)).cell? ⟨w.heap.size, 6, none⟩ = some (.int .i64 on) := blk_cell hB.b1 6
  have a7 : ((w.alloc (.cells #[.string f0, .int .i64 f1, .string f2, .int .i64 f3, .int .i64 sn, .int .i64 sd, .int .i64 on, .int .i64 od, .string f8] 55)).alloc (.cells #[.int .i64 0, .int .i64 0] 53)).cell? ⟨w.heap.size, 7, none⟩ = some (.int .i64 od) := blk_cell hB.b1 7
  have a8 : ((w.alloc (.cells #[.string f0, .int .i64 f1, .string f2, .int .i64 f3, .int .i64 sn, .int .i64 sd, .int .i64 on, .int .i64 od, .string f8] 55)).alloc (.cells #[.int .i64 0, .int .i64 0] 53)).cell? ⟨w.heap.size, 8, none⟩ = some (.string f8) := blk_cell hB.b1 8
  go_enter Try.func46, Try.ntmps46
  go_wp2_with fail
  refine (HV.out _).mono ?_
  rintro e w1 ⟨rfl, hb1⟩
  clear a0 a1 a2 a3 a4 a5 a6 a7 a8
  replace hB := (hB.step hb1).step (below_alloc (Below.refl _ _) (.cells #[.int .i64 v1, .int .i64 v2] 53))
  have kx := blk_new w1 (.cells #[.int .i64 v1, .int .i64 v2] 53)
  clear hb1
  by_cases n : v3 = 0
  · have hz := HR.out
    rw [if_pos n] at hz
    have HZ := Lib.hid hz
    subst n
    clear hz HR
    have a0 : (w1.alloc (.cells #[.int .i64 v1, .int .i64 v2] 53)).cell? ⟨w.heap.size, 0, none⟩ = some (.string f0) := blk_cell hB.b1 0
    have a1 : (w1.alloc (.cells #[.int .i64 v1, .int .i64 v2] 53)).cell? ⟨w.heap.size, 1, none⟩ = some (.int .i64 f1) := blk_cell hB.b1 1
    have a2 : (w1.alloc (.cells #[.int .i64 v1, .int .i64 v2] 53)).cell? ⟨w.heap.size, 2, none⟩ = some (.string f2) := blk_cell hB.b1 2
    have a3 : (w1.alloc (.cells #[.int .i64 v1, .int .i64 v2] 53)).cell? ⟨w.heap.size, 3, none⟩ = some (.int .i64 f3) := blk_cell hB.b1 3
    have a4 : (w1.alloc (.cells #[.int .i64 v1, .int .i64 v2] 53)).cell? ⟨w.heap.size, 4, none⟩ = some (.int .i64 sn) := blk_cell hB.b1 4
    have a5 : (w1.alloc (.cells #[.int .i64 v1, .int .i64 v2] 53)).cell? ⟨w.heap.size, 5, none⟩ = some (.int .i64 sd) := blk_cell hB.b1 5
    have a6 : (w1.alloc (.cells #[.int .i64 v1, .int .i64 v2] 53)).cell? ⟨w.heap.size, 6, none⟩ = some (.int .i64 on) := blk_cell hB.b1 6
    have a7 : (w1.alloc (.cells #[.int .i64 v1, .int .i64 v2] 53)).cell? ⟨w.heap.size, 7, none⟩ = some (.int .i64 od) := blk_cell hB.b1 7
    have a8 : (w1.alloc (.cells #[.int .i64 v1, .int .i64 v2] 53)).cell? ⟨w.heap.size, 8, none⟩ = some (.string f8) := blk_cell hB.b1 8
    have b0 : (w1.alloc (.cells #[.int .i64 v1, .int .i64 v2] 53)).cell? ⟨w1.heap.size, 0, none⟩ = some (.int .i64 v1) := blk_cell kx 0
    have b1 : (w1.alloc (.cells #[.int .i64 v1, .int .i64 v2] 53)).cell? ⟨w1.heap.size, 1, none⟩ = some (.int .i64 v2) := blk_cell kx 1
    go_wp2_with fail
    refine (HC.out _).mono ?_
    rintro e w2 ⟨rfl, hb2⟩
    replace hB := hB.step hb2
    clear hb2 kx a0 a1 a2 a3 a4 a5 a6 a7 a8 b0 b1
    have hx_ := hB.b2
    have d_0 : w2.cell? ⟨w.heap.size + 1, 0, none⟩ = some (.int .i64 0) := blk_cell hx_ 0
    have df_0 : w2.frozen? ⟨w.heap.size + 1, 0, none⟩ = false := blk_frozen hx_ 0
    have d_1 : w2.cell? ⟨w.heap.size + 1, 1, none⟩ = some (.int .i64 0) := blk_cell hx_ 1
    have df_1 : w2.frozen? ⟨w.heap.size + 1, 1, none⟩ = false := blk_frozen hx_ 1
    go_wp2_with fail
    have k_ := (blk_set (blk_set hx_ 0 (.int .i64 c1)) 1 (.int .i64 c2))
    have hB_ := (Below.setCell (Below.setCell hB.be (p := ⟨w.heap.size + 1, 0, none⟩) ((by show w.heap.size ≤ w.heap.size + 1; omega)) (.int .i64 c1)) (p := ⟨w.heap.size + 1, 1, none⟩) ((by show w.heap.size ≤ w.heap.size + 1; omega)) (.int .i64 c2))
    obtain ⟨w_, hw_⟩ : ∃ w_, w_ = (World.setCell (World.setCell w2 ⟨w.heap.size + 1, 0, none⟩ (.int .i64 c1)) ⟨w.heap.size + 1, 1, none⟩ (.int .i64 c2)) := ⟨_, rfl⟩
    rw [← hw_] at k_ hB_
    try rw [← hw_]
    clear hw_
    have s_0 : w_.cell? ⟨w.heap.size + 1, 0, none⟩ = some (.int .i64 c1) := blk_cell k_ 0
    have s_1 : w_.cell? ⟨w.heap.size + 1, 1, none⟩ = some (.int .i64 c2) := blk_cell k_ 1
    refine bodyPost_ret (by simp [results, Try.results46, go_sem, s_0, s_1]; try rfl) rfl ?_
    rw [HZ.out]
    exact ⟨rfl, hB_⟩
  · have m : (v3 == 0) = false := by simp [n]
    have hz := HR.out
    rw [if_neg n] at hz
    have HZ := Lib.hid hz
    clear hz HR n
    have hx_ := hB.b2
    have d_0 : (w1.alloc (.cells #[.int .i64 v1, .int .i64 v2] 53)).cell? ⟨w.heap.size + 1, 0, none⟩ = some (.int .i64 0) := blk_cell hx_ 0
    have df_0 : (w1.alloc (.cells #[.int .i64 v1, .int .i64 v2] 53)).frozen? ⟨w.heap.size + 1, 0, none⟩ = false := blk_frozen hx_ 0
    have d_1 : (w1.alloc (.cells #[.int .i64 v1, .int .i64 v2] 53)).cell? ⟨w.heap.size + 1, 1, none⟩ = some (.int .i64 0) := blk_cell hx_ 1
    have df_1 : (w1.alloc (.cells #[.int .i64 v1, .int .i64 v2] 53)).frozen? ⟨w.heap.size + 1, 1, none⟩ = false := blk_frozen hx_ 1
    go_wp2_with fail
    have k_ := (blk_set (blk_set hx_ 0 (.int .i64 0)) 1 (.int .i64 0))
    have hB_ := (Below.setCell (Below.setCell hB.be (p := ⟨w.heap.size + 1, 0, none⟩) ((by show w.heap.size ≤ w.heap.size + 1; omega)) (.int .i64 0)) (p := ⟨w.heap.size + 1, 1, none⟩) ((by show w.heap.size ≤ w.heap.size + 1; omega)) (.int .i64 0))
    obtain ⟨w_, hw_⟩ : ∃ w_, w_ = (World.setCell (World.setCell (w1.alloc (.cells #[.int .i64 v1, .int .i64 v2] 53)) ⟨w.heap.size + 1, 0, none⟩ (.int .i64 0)) ⟨w.heap.size + 1, 1, none⟩ (.int .i64 0)) := ⟨_, rfl⟩
    rw [← hw_] at k_ hB_
    try rw [← hw_]
    clear hw_
    have s_0 : w_.cell? ⟨w.heap.size + 1, 0, none⟩ = some (.int .i64 0) := blk_cell k_ 0
    have s_1 : w_.cell? ⟨w.heap.size + 1, 1, none⟩ = some (.int .i64 0) := blk_cell k_ 1
    refine bodyPost_ret (by simp [results, Try.results46, go_sem, s_0, s_1]; try rfl) rfl ?_
    rw [HZ.out]
    exact ⟨rfl, hB_⟩
end Go.Proofs.Ytmnohhmnkmnikaa.Scale

/- A field told in another unit of its kind, in plain Lean. -/
set_option linter.unusedVariables false
set_option linter.unusedSimpArgs false
namespace Go.Proofs.Ytmnohhmnkmnikaa.Scale
open Go.Proofs.Ytmnohhmnkmnikaa.RatPlain Go.Proofs.Ytmnohhmnkmnikaa.Unit

def outA (o : Option (Int × Int)) : Int × Int × Int := match o with | some p => (p.1, p.2, 0) | none => (0, 0, 2)
theorem told_outA {P : Prop} [Decidable P] (h : P) (r : Option (Int × Int)) : told P r = outA r := by
  unfold told outA
  rw [if_pos h]
  cases r <;> rfl
theorem conv_Rt {a b : ByteArray} {vn vd n d : Int} (h : convR a b vn vd = (n, d, 0)) : Rt vn vd := by
  by_cases hv : Rt vn vd
  · exact hv
  · exfalso
    unfold convR at h
    repeat' split at h
    all_goals first
      | (exact hv (by assumption))
      | (simp at h; done)
theorem in_cases {sn sd on od raw : Int} (hs : Rt sn sd) (ho : Rt on od) {u tu : ByteArray} {X : URow} (hu : find u = some X) :
    inR sn sd on od raw u tu = (0, 0, 2) ∨ (find tu = none ∧ inR sn sd on od raw u tu = (0, 0, 4)) ∨ (∃ T, find tu = some T ∧ ¬ likeU X T ∧ inR sn sd on od raw u tu = (0, 0, 5)) ∨
      ∃ T n d, find tu = some T ∧ likeU X T ∧ inR sn sd on od raw u tu = (n, d, 0) ∧ Rt n d ∧ val n d * T.F + T.O = (val raw 1 * val sn sd + val on od) * X.F + X.O := by
  unfold inR
  rcases value_cases sn sd on od raw with ⟨h, _⟩ | ⟨_, h⟩ | ⟨_, h⟩
  · exact absurd ⟨hs, ho⟩ h
  · rw [h]; exact .inl rfl
  · obtain ⟨v1, v2, h⟩ : ∃ v1 v2, valueR sn sd on od raw = (v1, v2, 0) := by
      rcases h with ⟨v1, v2, h, _⟩
      exact ⟨v1, v2, h⟩
    obtain ⟨_, _, rv, ev⟩ := value_ok h
    rw [h]
    dsimp only
    rw [if_pos rfl]
    rcases conv_cases u tu rv with ⟨hm, k⟩ | ⟨x, y, hx, hy, ⟨hl, k⟩ | ⟨_, k, _⟩ | ⟨hl, n, d, k, k2, k3⟩⟩
    · rcases hm with hm | hm
      · rw [hu] at hm; cases hm
      · exact .inr (.inl ⟨hm, k⟩)
    · rw [hu] at hx
      cases hx
      exact .inr (.inr (.inl ⟨y, hy, hl, k⟩))
    · exact .inl k
    · rw [hu] at hx
      cases hx
      rw [ev] at k3
      exact .inr (.inr (.inr ⟨y, n, d, hy, hl, k, k2, k3⟩))
theorem like_same {X Y T : URow} (h : likeU X Y) : likeU X T ↔ likeU Y T := by
  obtain ⟨h1, h2, h3, h4⟩ := h
  unfold likeU
  rw [h1, h2, h3, h4]
/-- What the two tell. -/
def Fit (v1 v2 j w1 w2 k : Int) : Prop := (j = 2 ∧ (k = 0 ∨ k = 2 ∨ k = 4 ∨ k = 5)) ∨ (k = 2 ∧ (j = 0 ∨ j = 4 ∨ j = 5)) ∨ (j = 4 ∧ k = 4) ∨ (j = 5 ∧ k = 5) ∨ (j = 0 ∧ k = 0 ∧ v1 = w1 ∧ v2 = w2)
theorem again {sn sd on od raw a1 a2 b1 b2 c1 c2 s1 s2 : Int} {u u2 tu : ByteArray} (ha : convR u u2 sn sd = (a1, a2, 0)) (hb : convR u u2 0 1 = (b1, b2, 0)) (hc : convR u u2 on od = (c1, c2, 0))
    (hadd : addR a1 a2 (-b1) b2 = some (s1, s2)) {v1 v2 j w1 w2 k : Int} (hv : inR sn sd on od raw u tu = (v1, v2, j)) (hw : inR s1 s2 c1 c2 raw u2 tu = (w1, w2, k)) : Fit v1 v2 j w1 w2 k := by
  have rs := conv_Rt ha
  have ro := conv_Rt hc
  obtain ⟨X, Y, hX, hY, hl, ra, ea⟩ := conv_ok rs ha
  obtain ⟨X', Y', hX', hY', _, rb, eb⟩ := conv_ok (Rt_one 0) hb
  rw [hX] at hX'; cases hX'
  rw [hY] at hY'; cases hY'
  obtain ⟨X', Y', hX', hY', _, rc, ec⟩ := conv_ok ro hc
  rw [hX] at hX'; cases hX'
  rw [hY] at hY'; cases hY'
  obtain ⟨r3, e3⟩ := add_val ra (Rt_neg rb) hadd
  dsimp only at r3 e3
  rw [val_neg] at e3
  have z0 : val 0 1 = 0 := (val_zero (Rt_one 0)).2 rfl
  rw [z0] at eb
  unfold Fit
  rcases in_cases (raw := raw) rs ro (tu := tu) hX with p | ⟨pm, p⟩ | ⟨T, pT, pl, p⟩ | ⟨T, n, d, pT, pl, p, pr, pe⟩ <;> rw [p] at hv <;> cases hv <;>
    rcases in_cases (raw := raw) r3 rc (tu := tu) hY with q | ⟨qm, q⟩ | ⟨T', qT, ql, q⟩ | ⟨T', m, e, qT, ql, q, qr, qe⟩ <;> rw [q] at hw <;> cases hw
  all_goals first
    | (simp; done)
    | (exfalso; rw [pm] at qT; cases qT; done)
    | (exfalso; rw [pT] at qm; cases qm; done)
    | (exfalso; rw [pT] at qT; cases qT; exact pl ((like_same hl).2 ql))
    | (exfalso; rw [pT] at qT; cases qT; exact ql ((like_same hl).1 pl))
    | skip
  rw [pT] at qT
  cases qT
  have he : val v1 v2 = val w1 w2 := by
    refine cancel (f := T.F) (o := T.O) (find_good pT).pos ?_
    rw [pe, qe, e3]
    grind
  obtain ⟨g1, g2⟩ := val_inj pr qr he
  exact .inr (.inr (.inr (.inr ⟨rfl, rfl, g1, g2⟩)))
end Go.Proofs.Ytmnohhmnkmnikaa.Scale



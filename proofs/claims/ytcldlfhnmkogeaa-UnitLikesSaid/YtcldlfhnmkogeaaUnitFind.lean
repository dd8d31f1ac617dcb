import Derived.Test.YtcldlfhnmkogeaaUnitAll
/- A unit by its name (unit.Find), walked. -/
set_option linter.unusedVariables false
set_option linter.unusedSimpArgs false
namespace Go.Proofs.Ytcldlfhnmkogeaa.Unit
open Go.RowKit Go.Shelf Go.Proofs.YtcldlfhnmkogeaaW.PrintWords Go.Proofs.Ytcldlfhnmkogeaa.Nats Go.Proofs.Ytcldlfhnmkogeaa.HeapKit
attribute [local go_sem] Oper.semAt_some

theorem grown_of_below {A B : World} (h : Below A.heap.size A B) : A.grownBy B none := ⟨h.os, h.tape, h.output, h.size, fun k hk _ => h.block k hk⟩
theorem all_stops (m : Nat) (hm : 1 ≤ m) (n₀ : Nat) (w : World) (hn₀ : n₀ ≤ w.heap.size) :
    SeqStopsK Fence.wide m Try.prog 92 #[] (fun x : URow => #[x.val]) (Kp n₀) (fun ys => ys = units) (fun pre => ∃ k, k ≤ 25 ∧ pre = units.take k) 25 w := fun l J Jx W hW hJ hJx hY h0 =>
  all1 m hm l n₀ J Jx hY W (Nat.le_trans hn₀ hW.size) (fun pre A B hA hb => hJ pre A B none hA (grown_of_below hb) (fun r e => by cases e)) h0
set_option maxRecDepth 100000 in
set_option maxHeartbeats 1000000 in
theorem all_in (m : Nat) (w : World) :
    CallsIn Fence.wide m Try.prog 72 #[] w fun e w' => e = .returned (.func (.func 92) #[] #[]) ∧ w' = w := by
  refine callsIn_of_wp Try.func72 rfl trivial ?_ rfl
  simp only [Try.ntmps72, List.size_toArray, List.length_cons, List.length_nil, Nat.reduceAdd, Nat.reduceSub, Array.replicate_succ, Array.replicate_zero, List.push_toArray, List.append_toArray, List.nil_append, List.cons_append]
  gi_wp2
  go_ret
  exact ⟨rfl, rfl⟩
theorem own_blk {β : Type} {B k : Nat} {o : Obj} (ho : o.isCells = true) : OwnFrom B (fun (_ : β) W => W.heap[k]? = some o) := fun s X Y row hs hg hr =>
  (hg.block k (blk_lt hs) (fun e => by
    obtain ⟨_, o', h1, h2⟩ := hr k e.symm
    rw [show X.heap[k]? = some o from hs] at h1
    cases h1
    rw [ho] at h2
    cases h2)).trans hs
theorem own_pure {β : Type} {B : Nat} {p : β → Prop} : OwnFrom B (fun s (_ : World) => p s) := fun _ _ _ _ h _ _ => h
theorem keeps_set {B : Nat} {W W' : World} (h : KeepsFrom B W W') {p : Addr} (hp : p.block < B) (u : Value) : KeepsFrom B W (W'.setCell p u) :=
  ⟨by simpa using h.size, fun k o hk ho hc => (Below.heap_setCell W' p u k (by omega)).trans (h.same k o hk ho hc)⟩
theorem keeps_below {B : Nat} {W W' : World} (h : Below W.heap.size W W') : KeepsFrom B W W' :=
  ⟨h.size, fun k o _ ho _ => blk_below ho h⟩
/-- The unit of a name. -/
def find (name : ByteArray) : Option URow := units.find? (fun u => u.name.toList == name.toList)
def zrow : URow := ⟨⟨#[]⟩, 0, 0, 0, 0, 0, 0, 0, 0, 0⟩
/-- A unit stored into a box. -/
def put10 (W : World) (b : Nat) (u : URow) : World := (World.setCell (World.setCell (World.setCell (World.setCell (World.setCell (World.setCell (World.setCell (World.setCell (World.setCell (World.setCell W ⟨b, 0, none⟩ (.string u.name)) ⟨b, 1, none⟩ (.int .i64 u.d0)) ⟨b, 2, none⟩ (.int .i64 u.d1)) ⟨b, 3, none⟩ (.int .i64 u.d2)) ⟨b, 4, none⟩ (.int .i64 u.d3)) ⟨b, 5, none⟩ (.int .i64 u.fn)) ⟨b, 6, none⟩ (.int .i64 u.fd)) ⟨b, 7, none⟩ (.int .i64 u.on)) ⟨b, 8, none⟩ (.int .i64 u.od)) ⟨b, 9, none⟩ (.int .i64 u.code))
theorem put10_blk {W : World} {b : Nat} {t : TypeId} (u : URow) (h : W.heap[b]? = some (.cells zrow.cells.toArray t (0, 0))) : (put10 W b u).heap[b]? = some (.cells u.cells.toArray t (0, 0)) := by
  have h0 := blk_put (cs' := #[.string u.name, .int .i64 0, .int .i64 0, .int .i64 0, .int .i64 0, .int .i64 0, .int .i64 0, .int .i64 0, .int .i64 0, .int .i64 0]) h 0 (.string u.name) rfl
  have h1 := blk_put (cs' := #[.string u.name, .int .i64 u.d0, .int .i64 0, .int .i64 0, .int .i64 0, .int .i64 0, .int .i64 0, .int .i64 0, .int .i64 0, .int .i64 0]) h0 1 (.int .i64 u.d0) rfl
  have h2 := blk_put (cs' := #[.string u.name, .int .i64 u.d0, .int .i64 u.d1, .int .i64 0, .int .i64 0, .int .i64 0, .int .i64 0, .int .i64 0, .int .i64 0, .int .i64 0]) h1 2 (.int .i64 u.d1) rfl
  have h3 := blk_put (cs' := #[.string u.name, .int .i64 u.d0, .int .i64 u.d1, .int .i64 u.d2, .int .i64 0, .int .i64 0, .int .i64 0, .int .i64 0, .int .i64 0, .int .i64 0]) h2 3 (.int .i64 u.d2) rfl
  have h4 := blk_put (cs' := #[.string u.name, .int .i64 u.d0, .int .i64 u.d1, .int .i64 u.d2, .int .i64 u.d3, .int .i64 0, .int .i64 0, .int .i64 0, .int .i64 0, .int .i64 0]) h3 4 (.int .i64 u.d3) rfl
  have h5 := blk_put (cs' := #[.string u.name, .int .i64 u.d0, .int .i64 u.d1, .int .i64 u.d2, .int .i64 u.d3, .int .i64 u.fn, .int .i64 0, .int .i64 0, .int .i64 0, .int .i64 0]) h4 5 (.int .i64 u.fn) rfl
  have h6 := blk_put (cs' := #[.string u.name, .int .i64 u.d0, .int .i64 u.d1, .int .i64 u.d2, .int .i64 u.d3, .int .i64 u.fn, .int .i64 u.fd, .int .i64 0, .int .i64 0, .int .i64 0]) h5 6 (.int .i64 u.fd) rfl
  have h7 := blk_put (cs' := #[.string u.name, .int .i64 u.d0, .int .i64 u.d1, .int .i64 u.d2, .int .i64 u.d3, .int .i64 u.fn, .int .i64 u.fd, .int .i64 u.on, .int .i64 0, .int .i64 0]) h6 7 (.int .i64 u.on) rfl
  have h8 := blk_put (cs' := #[.string u.name, .int .i64 u.d0, .int .i64 u.d1, .int .i64 u.d2, .int .i64 u.d3, .int .i64 u.fn, .int .i64 u.fd, .int .i64 u.on, .int .i64 u.od, .int .i64 0]) h7 8 (.int .i64 u.od) rfl
  have h9 := blk_put (cs' := #[.string u.name, .int .i64 u.d0, .int .i64 u.d1, .int .i64 u.d2, .int .i64 u.d3, .int .i64 u.fn, .int .i64 u.fd, .int .i64 u.on, .int .i64 u.od, .int .i64 u.code]) h8 9 (.int .i64 u.code) rfl
  exact h9
theorem put10_far {W : World} {b g : Nat} {o : Obj} (u : URow) (h : W.heap[g]? = some o) (hne : g ≠ b) : (put10 W b u).heap[g]? = some o := by
  have h0 := (Below.heap_setCell _ ⟨b, 0, none⟩ (.string u.name) g hne).trans h
  have h1 := (Below.heap_setCell _ ⟨b, 1, none⟩ (.int .i64 u.d0) g hne).trans h0
  have h2 := (Below.heap_setCell _ ⟨b, 2, none⟩ (.int .i64 u.d1) g hne).trans h1
  have h3 := (Below.heap_setCell _ ⟨b, 3, none⟩ (.int .i64 u.d2) g hne).trans h2
  have h4 := (Below.heap_setCell _ ⟨b, 4, none⟩ (.int .i64 u.d3) g hne).trans h3
  have h5 := (Below.heap_setCell _ ⟨b, 5, none⟩ (.int .i64 u.fn) g hne).trans h4
  have h6 := (Below.heap_setCell _ ⟨b, 6, none⟩ (.int .i64 u.fd) g hne).trans h5
  have h7 := (Below.heap_setCell _ ⟨b, 7, none⟩ (.int .i64 u.on) g hne).trans h6
  have h8 := (Below.heap_setCell _ ⟨b, 8, none⟩ (.int .i64 u.od) g hne).trans h7
  have h9 := (Below.heap_setCell _ ⟨b, 9, none⟩ (.int .i64 u.code) g hne).trans h8
  exact h9
theorem put10_below {w W : World} {b n : Nat} (u : URow) (h : Below n w W) (hb : n ≤ b) : Below n w (put10 W b u) := by
  have h0 := Below.setCell h (p := ⟨b, 0, none⟩) hb (.string u.name)
  have h1 := Below.setCell h0 (p := ⟨b, 1, none⟩) hb (.int .i64 u.d0)
  have h2 := Below.setCell h1 (p := ⟨b, 2, none⟩) hb (.int .i64 u.d1)
  have h3 := Below.setCell h2 (p := ⟨b, 3, none⟩) hb (.int .i64 u.d2)
  have h4 := Below.setCell h3 (p := ⟨b, 4, none⟩) hb (.int .i64 u.d3)
  have h5 := Below.setCell h4 (p := ⟨b, 5, none⟩) hb (.int .i64 u.fn)
  have h6 := Below.setCell h5 (p := ⟨b, 6, none⟩) hb (.int .i64 u.fd)
  have h7 := Below.setCell h6 (p := ⟨b, 7, none⟩) hb (.int .i64 u.on)
  have h8 := Below.setCell h7 (p := ⟨b, 8, none⟩) hb (.int .i64 u.od)
  have h9 := Below.setCell h8 (p := ⟨b, 9, none⟩) hb (.int .i64 u.code)
  exact h9
theorem put10_keeps {B : Nat} {W W' : World} {b : Nat} (u : URow) (h : KeepsFrom B W W') (hb : b < B) : KeepsFrom B W (put10 W' b u) := by
  have h0 := keeps_set h (p := ⟨b, 0, none⟩) hb (.string u.name)
  have h1 := keeps_set h0 (p := ⟨b, 1, none⟩) hb (.int .i64 u.d0)
  have h2 := keeps_set h1 (p := ⟨b, 2, none⟩) hb (.int .i64 u.d1)
  have h3 := keeps_set h2 (p := ⟨b, 3, none⟩) hb (.int .i64 u.d2)
  have h4 := keeps_set h3 (p := ⟨b, 4, none⟩) hb (.int .i64 u.d3)
  have h5 := keeps_set h4 (p := ⟨b, 5, none⟩) hb (.int .i64 u.fn)
  have h6 := keeps_set h5 (p := ⟨b, 6, none⟩) hb (.int .i64 u.fd)
  have h7 := keeps_set h6 (p := ⟨b, 7, none⟩) hb (.int .i64 u.on)
  have h8 := keeps_set h7 (p := ⟨b, 8, none⟩) hb (.int .i64 u.od)
  have h9 := keeps_set h8 (p := ⟨b, 9, none⟩) hb (.int .i64 u.code)
  exact h9

theorem find_hit {name : ByteArray} {pre : List URow} {u : URow} {k : Nat} (hk : pre ++ [u] = units.take k) (h1 : ∀ x ∈ pre, x.name.toList ≠ name.toList) (h2 : u.name.toList = name.toList) : find name = some u := by
  unfold find
  rw [← List.take_append_drop k units, ← hk, List.find?_append, List.find?_append]
  have h3 : pre.find? (fun u => u.name.toList == name.toList) = none := by
    rw [List.find?_eq_none]
    intro x hx
    simpa using h1 x hx
  rw [h3]
  simp [h2]
theorem find_miss {name : ByteArray} (h1 : ∀ x ∈ units, x.name.toList ≠ name.toList) : find name = none := by
  unfold find
  rw [List.find?_eq_none]
  intro x hx
  simpa using h1 x hx

set_option maxRecDepth 100000 in
set_option maxHeartbeats 1000000 in
theorem find_in (m : Nat) (hm : 3 ≤ m) (name : ByteArray) (w : World) :
    CallsIn Fence.wide m Try.prog 39 #[.string name] w fun e W' => e = .returned (.tuple #[((find name).getD zrow).val, .bool (find name).isSome]) ∧ Below w.heap.size w W' := by
  have h1 : 1 ≤ m := by omega
  refine callsIn_of_wp_marks Try.func39 rfl trivial ?_ rfl
  simp only [Try.ntmps39, List.size_toArray, List.length_cons, List.length_nil, Nat.reduceAdd, Nat.reduceSub, Array.replicate_succ, Array.replicate_zero, List.push_toArray, List.append_toArray, List.nil_append, List.cons_append]
  gi_wp2_with ((first | refine ⟨trivial, ?_⟩ | skip); gi_at_call 72; refine (all_in (m - 1) _).mono ?_; rintro e w' ⟨rfl, rfl⟩)
  have hB := b3_start w (.cells #[.string name] 9) (.cells #[.string ⟨#[]⟩, .int .i64 0, .int .i64 0, .int .i64 0, .int .i64 0, .int .i64 0, .int .i64 0, .int .i64 0, .int .i64 0, .int .i64 0] 70) (.cells #[.bool false] 4)
  have hsz : (((w.alloc (.cells #[.string name] 9)).alloc (.cells #[.string ⟨#[]⟩, .int .i64 0, .int .i64 0, .int .i64 0, .int .i64 0, .int .i64 0, .int .i64 0, .int .i64 0, .int .i64 0, .int .i64 0] 70)).alloc (.cells #[.bool false] 4)).heap.size = w.heap.size + 3 := by simp
  obtain ⟨W0, hW0⟩ : ∃ W0, (((w.alloc (.cells #[.string name] 9)).alloc (.cells #[.string ⟨#[]⟩, .int .i64 0, .int .i64 0, .int .i64 0, .int .i64 0, .int .i64 0, .int .i64 0, .int .i64 0, .int .i64 0, .int .i64 0] 70)).alloc (.cells #[.bool false] 4)) = W0 := ⟨_, rfl⟩
  rw [hW0] at hB hsz ⊢
  clear hW0
  refine wpIn_rangeFunc_ownH rfl h1 (gf := 92) (lb := #[]) rfl trivial (enters_of Try.func92 (by kernel_rfl) rfl)
    (all_stops (m - 1) (by omega) w.heap.size W0 (by omega)) Kp.trans (Kp.book (by omega)) (Below.refl _ _) (fun _ => rfl)
    (fun (pre : List URow) W => ((((W.heap[w.heap.size]? = some (.cells #[.string name] 9 (0, 0)) ∧ W.heap[w.heap.size + 1]? = some (.cells #[.string ⟨#[]⟩, .int .i64 0, .int .i64 0, .int .i64 0, .int .i64 0, .int .i64 0, .int .i64 0, .int .i64 0, .int .i64 0, .int .i64 0] 70 (0, 0))) ∧ W.heap[w.heap.size + 1 + 1]? = some (.cells #[.bool false] 4 (0, 0))) ∧ Below w.heap.size w W) ∧ ∀ x ∈ pre, x.name.toList ≠ name.toList))
    (fun c (pre : List URow) W => (((∃ p u, c = .ret ∧ pre = p ++ [u] ∧ (∀ x ∈ p, x.name.toList ≠ name.toList) ∧ u.name.toList = name.toList ∧ W.heap[w.heap.size + 1]? = some (.cells u.cells.toArray 70 (0, 0))) ∧ W.heap[w.heap.size + 1 + 1]? = some (.cells #[.bool true] 4 (0, 0))) ∧ Below w.heap.size w W))
    (OwnFrom.and (OwnFrom.and (OwnFrom.and (OwnFrom.and (own_blk rfl) (own_blk rfl)) (own_blk rfl)) (ownFrom_below (Nat.le_refl _) (by omega))) own_pure)
    (fun c => OwnFrom.and (OwnFrom.and (fun s X Y row hs hg hr => by obtain ⟨p, u, h1, h2, h3, h4, h5⟩ := hs; exact ⟨p, u, h1, h2, h3, h4, own_blk (β := Unit) (B := W0.heap.size) rfl () X Y row h5 hg hr⟩) (own_blk rfl)) (ownFrom_below (Nat.le_refl _) (by omega)))
    ⟨⟨⟨⟨hB.b1, hB.b2⟩, hB.b3⟩, hB.be⟩, fun x hx => by cases hx⟩
    (fun (x : URow) a' W => ∃ Bx, w.heap.size + 1 + 1 < Bx ∧ W.heap[Bx]? = some (.cells x.cells.toArray 70 (0, 0)) ∧ a' = { tmps := #[.string name, .pointer (some ⟨w.heap.size, 0, none⟩), .pointer (some ⟨w.heap.size + 1, 0, none⟩), .pointer (some ⟨w.heap.size + 1 + 1, 0, none⟩), .pointer (some ⟨Bx, 0, none⟩), .func (.func 92) #[] #[], x.val, undef, undef, undef, undef, undef, undef], defers := [] })
    (fun x a' _ X Y row hs hg hr => by
      obtain ⟨Bx, h1, h2, h3⟩ := hs
      exact ⟨Bx, h1, own_blk (β := Unit) (B := W0.heap.size) rfl () X Y row h2 hg hr, h3⟩)
    ?assign ?body ?done ?stop
  case assign =>
    rintro l pre x W K ⟨⟨⟨⟨i1, i2⟩, i3⟩, i4⟩, i5⟩ hK
    obtain ⟨nm, e0, e1, e2, e3, fn, fd, on, od, cd⟩ := x
    dsimp only [URow.val]
    have hlt := blk_lt i3
    gi_wp2
    exact hK _ _ ((KeepsOthers.alloc _ _).from _) ⟨(Below.refl _ W).alloc i4.size _, fun k o ho _ => blk_alloc ho _⟩ ⟨⟨⟨⟨blk_alloc i1 _, blk_alloc i2 _⟩, blk_alloc i3 _⟩, i4.alloc i4.size _⟩, i5⟩ ⟨W.heap.size, hlt, blk_new W _, rfl⟩
  case body =>
    rintro l pre x a' W hl ⟨r, hr⟩ ⟨⟨⟨⟨i1, i2⟩, i3⟩, i4⟩, i5⟩ ⟨Bx, hBx, bX, rfl⟩ hlt
    obtain ⟨nm, e0, e1, e2, e3, fn, fd, on, od, cd⟩ := x
    replace bX : W.heap[Bx]? = some (.cells #[.string nm, .int .i64 e0, .int .i64 e1, .int .i64 e2, .int .i64 e3, .int .i64 fn, .int .i64 fd, .int .i64 on, .int .i64 od, .int .i64 cd] 70 (0, 0)) := bX
    have k1 : W.cell? ⟨w.heap.size, 0, none⟩ = some (.string name) := blk_cell i1 0
    have c0 : W.cell? ⟨Bx, 0, none⟩ = some (.string nm) := blk_cell bX 0
    have c1 : W.cell? ⟨Bx, 1, none⟩ = some (.int .i64 e0) := blk_cell bX 1
    have c2 : W.cell? ⟨Bx, 2, none⟩ = some (.int .i64 e1) := blk_cell bX 2
    have c3 : W.cell? ⟨Bx, 3, none⟩ = some (.int .i64 e2) := blk_cell bX 3
    have c4 : W.cell? ⟨Bx, 4, none⟩ = some (.int .i64 e3) := blk_cell bX 4
    have c5 : W.cell? ⟨Bx, 5, none⟩ = some (.int .i64 fn) := blk_cell bX 5
    have c6 : W.cell? ⟨Bx, 6, none⟩ = some (.int .i64 fd) := blk_cell bX 6
    have c7 : W.cell? ⟨Bx, 7, none⟩ = some (.int .i64 on) := blk_cell bX 7
    have c8 : W.cell? ⟨Bx, 8, none⟩ = some (.int .i64 od) := blk_cell bX 8
    have c9 : W.cell? ⟨Bx, 9, none⟩ = some (.int .i64 cd) := blk_cell bX 9
    have d0 : W.cell? ⟨w.heap.size + 1, 0, none⟩ = some (.string ⟨#[]⟩) := blk_cell i2 0
    have df0 : W.frozen? ⟨w.heap.size + 1, 0, none⟩ = false := blk_frozen i2 0
    have d1 : W.cell? ⟨w.heap.size + 1, 1, none⟩ = some (.int .i64 0) := blk_cell i2 1
    have df1 : W.frozen? ⟨w.heap.size + 1, 1, none⟩ = false := blk_frozen i2 1
    have d2 : W.cell? ⟨w.heap.size + 1, 2, none⟩ = some (.int .i64 0) := blk_cell i2 2
    have df2 : W.frozen? ⟨w.heap.size + 1, 2, none⟩ = false := blk_frozen i2 2
    have d3 : W.cell? ⟨w.heap.size + 1, 3, none⟩ = some (.int .i64 0) := blk_cell i2 3
    have df3 : W.frozen? ⟨w.heap.size + 1, 3, none⟩ = false := blk_frozen i2 3
    have d4 : W.cell? ⟨w.heap.size + 1, 4, none⟩ = some (.int .i64 0) := blk_cell i2 4
    have df4 : W.frozen? ⟨w.heap.size + 1, 4, none⟩ = false := blk_frozen i2 4
    have d5 : W.cell? ⟨w.heap.size + 1, 5, none⟩ = some (.int .i64 0) := blk_cell i2 5
    have df5 : W.frozen? ⟨w.heap.size + 1, 5, none⟩ = false := blk_frozen i2 5
    have d6 : W.cell? ⟨w.heap.size + 1, 6, none⟩ = some (.int .i64 0) := blk_cell i2 6
    have df6 : W.frozen? ⟨w.heap.size + 1, 6, none⟩ = false := blk_frozen i2 6
    have d7 : W.cell? ⟨w.heap.size + 1, 7, none⟩ = some (.int .i64 0) := blk_cell i2 7
    have df7 : W.frozen? ⟨w.heap.size + 1, 7, none⟩ = false := blk_frozen i2 7
    have d8 : W.cell? ⟨w.heap.size + 1, 8, none⟩ = some (.int .i64 0) := blk_cell i2 8
    have df8 : W.frozen? ⟨w.heap.size + 1, 8, none⟩ = false := blk_frozen i2 8
    have d9 : W.cell? ⟨w.heap.size + 1, 9, none⟩ = some (.int .i64 0) := blk_cell i2 9
    have df9 : W.frozen? ⟨w.heap.size + 1, 9, none⟩ = false := blk_frozen i2 9
    have g0 : W.cell? ⟨w.heap.size + 1 + 1, 0, none⟩ = some (.bool false) := blk_cell i3 0
    have gf : W.frozen? ⟨w.heap.size + 1 + 1, 0, none⟩ = false := blk_frozen i3 0
    have n1 : Bx ≠ w.heap.size + 1 := by omega
    have n2 : Bx ≠ w.heap.size + 1 + 1 := by omega
    by_cases he : nm.toList = name.toList
    · have ee : (nm.toList == name.toList) = true := by simp [he]
      have HE := Lib.hid he
      clear he
      gi_wp2
      have hk := keeps_set (put10_keeps (b := w.heap.size + 1) ⟨nm, e0, e1, e2, e3, fn, fd, on, od, cd⟩ (KeepsFrom.refl W0.heap.size W) (by omega)) (p := ⟨w.heap.size + 1 + 1, 0, none⟩) (by show w.heap.size + 1 + 1 < W0.heap.size; omega) (.bool true)
      have j1 := blk_far (put10_blk ⟨nm, e0, e1, e2, e3, fn, fd, on, od, cd⟩ i2) (p := ⟨w.heap.size + 1 + 1, 0, none⟩) (by show w.heap.size + 1 ≠ w.heap.size + 1 + 1; omega) (.bool true)
      have j2 := blk_set (put10_far (b := w.heap.size + 1) ⟨nm, e0, e1, e2, e3, fn, fd, on, od, cd⟩ i3 (by omega)) 0 (.bool true)
      have jB := Below.setCell (put10_below (b := w.heap.size + 1) ⟨nm, e0, e1, e2, e3, fn, fd, on, od, cd⟩ i4 (by omega)) (p := ⟨w.heap.size + 1 + 1, 0, none⟩) (by show w.heap.size ≤ w.heap.size + 1 + 1; omega) (.bool true)
      exact ⟨hk, ⟨⟨pre, ⟨nm, e0, e1, e2, e3, fn, fd, on, od, cd⟩, rfl, rfl, i5, HE.out, j1⟩, j2⟩, jB⟩
    · have ee : (nm.toList == name.toList) = false := by simp [he]
      gi_wp2
      exact ⟨KeepsFrom.refl _ _, Kp.refl _ _, ⟨⟨⟨⟨i1, i2⟩, i3⟩, i4⟩, fun x hx => by
        rcases List.mem_append.1 hx with h | h
        · exact i5 x h
        · rw [List.mem_singleton.1 h]; exact he⟩⟩
  case done =>
    rintro D ys W hD rfl ⟨⟨⟨⟨i1, i2⟩, i3⟩, i4⟩, i5⟩ hK
    have hf := find_miss i5
    have d0 : W.cell? ⟨w.heap.size + 1, 0, none⟩ = some (.string ⟨#[]⟩) := blk_cell i2 0
    have df0 : W.frozen? ⟨w.heap.size + 1, 0, none⟩ = false := blk_frozen i2 0
    have d1 : W.cell? ⟨w.heap.size + 1, 1, none⟩ = some (.int .i64 0) := blk_cell i2 1
    have df1 : W.frozen? ⟨w.heap.size + 1, 1, none⟩ = false := blk_frozen i2 1
    have d2 : W.cell? ⟨w.heap.size + 1, 2, none⟩ = some (.int .i64 0) := blk_cell i2 2
    have df2 : W.frozen? ⟨w.heap.size + 1, 2, none⟩ = false := blk_frozen i2 2
    have d3 : W.cell? ⟨w.heap.size + 1, 3, none⟩ = some (.int .i64 0) := blk_cell i2 3
    have df3 : W.frozen? ⟨w.heap.size + 1, 3, none⟩ = false := blk_frozen i2 3
    have d4 : W.cell? ⟨w.heap.size + 1, 4, none⟩ = some (.int .i64 0) := blk_cell i2 4
    have df4 : W.frozen? ⟨w.heap.size + 1, 4, none⟩ = false := blk_frozen i2 4
    have d5 : W.cell? ⟨w.heap.size + 1, 5, none⟩ = some (.int .i64 0) := blk_cell i2 5
    have df5 : W.frozen? ⟨w.heap.size + 1, 5, none⟩ = false := blk_frozen i2 5
    have d6 : W.cell? ⟨w.heap.size + 1, 6, none⟩ = some (.int .i64 0) := blk_cell i2 6
    have df6 : W.frozen? ⟨w.heap.size + 1, 6, none⟩ = false := blk_frozen i2 6
    have d7 : W.cell? ⟨w.heap.size + 1, 7, none⟩ = some (.int .i64 0) := blk_cell i2 7
    have df7 : W.frozen? ⟨w.heap.size + 1, 7, none⟩ = false := blk_frozen i2 7
    have d8 : W.cell? ⟨w.heap.size + 1, 8, none⟩ = some (.int .i64 0) := blk_cell i2 8
    have df8 : W.frozen? ⟨w.heap.size + 1, 8, none⟩ = false := blk_frozen i2 8
    have d9 : W.cell? ⟨w.heap.size + 1, 9, none⟩ = some (.int .i64 0) := blk_cell i2 9
    have df9 : W.frozen? ⟨w.heap.size + 1, 9, none⟩ = false := blk_frozen i2 9
    have g0 : W.cell? ⟨w.heap.size + 1 + 1, 0, none⟩ = some (.bool false) := blk_cell i3 0
    have gf : W.frozen? ⟨w.heap.size + 1 + 1, 0, none⟩ = false := blk_frozen i3 0
    gi_wp2
    have hK1 := (Below.heap_setCell (put10 W (w.heap.size + 1) zrow) ⟨w.heap.size + 1 + 1, 0, none⟩ (.bool false) D (by show D ≠ w.heap.size + 1 + 1; omega)).trans (put10_far (b := w.heap.size + 1) zrow hK (by omega))
    have j1 := blk_far (put10_blk zrow i2) (p := ⟨w.heap.size + 1 + 1, 0, none⟩) (by show w.heap.size + 1 ≠ w.heap.size + 1 + 1; omega) (.bool false)
    have j2 := blk_set (put10_far (b := w.heap.size + 1) zrow i3 (by omega)) 0 (.bool false)
    have jB := Below.setCell (put10_below (b := w.heap.size + 1) zrow i4 (by omega)) (p := ⟨w.heap.size + 1 + 1, 0, none⟩) (by show w.heap.size ≤ w.heap.size + 1 + 1; omega) (.bool false)
    obtain ⟨W1, hW1⟩ : ∃ W1, (put10 W (w.heap.size + 1) zrow).setCell ⟨w.heap.size + 1 + 1, 0, none⟩ (.bool false) = W1 := ⟨_, rfl⟩
    rw [hW1] at hK1 j1 j2 jB
    show bodyPostM Fence.wide m Try.prog Try.f39 _ _ _ ((put10 W (w.heap.size + 1) zrow).setCell ⟨w.heap.size + 1 + 1, 0, none⟩ (.bool false))
    rw [hW1]
    clear hW1
    obtain ⟨W2, hW2⟩ : ∃ W2, W1.putObj D (.deferred none) = W2 := ⟨_, rfl⟩
    have x1 : W2.heap[w.heap.size + 1]? = some (.cells #[.string ⟨#[]⟩, .int .i64 0, .int .i64 0, .int .i64 0, .int .i64 0, .int .i64 0, .int .i64 0, .int .i64 0, .int .i64 0, .int .i64 0] 70 (0, 0)) := hW2 ▸ (World.putObj_heap_other (by omega)).trans j1
    have x2 : W2.heap[w.heap.size + 1 + 1]? = some (.cells #[.bool false] 4 (0, 0)) := hW2 ▸ (World.putObj_heap_other (by omega)).trans j2
    have hB2 : Below w.heap.size w W2 := hW2 ▸ jB.trans (belowK_b (w := w) (Nat.le_refl _) W1 D _ _ (by omega) hK1 rfl rfl)
    refine ⟨by simp, .inl ⟨_, _, rfl, run_takeDeferred hK1, ?_⟩⟩
    rw [hW2]
    clear hW2
    have s0 : W2.cell? ⟨w.heap.size + 1, 0, none⟩ = some (.string ⟨#[]⟩) := blk_cell x1 0
    have s1 : W2.cell? ⟨w.heap.size + 1, 1, none⟩ = some (.int .i64 0) := blk_cell x1 1
    have s2 : W2.cell? ⟨w.heap.size + 1, 2, none⟩ = some (.int .i64 0) := blk_cell x1 2
    have s3 : W2.cell? ⟨w.heap.size + 1, 3, none⟩ = some (.int .i64 0) := blk_cell x1 3
    have s4 : W2.cell? ⟨w.heap.size + 1, 4, none⟩ = some (.int .i64 0) := blk_cell x1 4
    have s5 : W2.cell? ⟨w.heap.size + 1, 5, none⟩ = some (.int .i64 0) := blk_cell x1 5
    have s6 : W2.cell? ⟨w.heap.size + 1, 6, none⟩ = some (.int .i64 0) := blk_cell x1 6
    have s7 : W2.cell? ⟨w.heap.size + 1, 7, none⟩ = some (.int .i64 0) := blk_cell x1 7
    have s8 : W2.cell? ⟨w.heap.size + 1, 8, none⟩ = some (.int .i64 0) := blk_cell x1 8
    have s9 : W2.cell? ⟨w.heap.size + 1, 9, none⟩ = some (.int .i64 0) := blk_cell x1 9
    have s10 : W2.cell? ⟨w.heap.size + 1 + 1, 0, none⟩ = some (.bool false) := blk_cell x2 0
    refine ⟨_, by simp [results, Try.results39, go_sem, s0, s1, s2, s3, s4, s5, s6, s7, s8, s9, s10]; try rfl, ?_⟩
    try rw [hf]
    exact ⟨rfl, hB2⟩
  case stop =>
    rintro D c pre W hD ⟨k, hk, hpre⟩ ⟨⟨⟨p, u, rfl, rfl, h3, h4, j1⟩, j2⟩, jB⟩ hK
    have hf := find_hit hpre h3 h4
    obtain ⟨nm, e0, e1, e2, e3, fn, fd, on, od, cd⟩ := u
    gi_wp2
    have hK1 := hK
    obtain ⟨W1, hW1⟩ : ∃ W1, W = W1 := ⟨_, rfl⟩
    rw [hW1] at hK1 j1 j2 jB ⊢
    clear hW1 hK
    obtain ⟨W2, hW2⟩ : ∃ W2, W1.putObj D (.deferred none) = W2 := ⟨_, rfl⟩
    have x1 : W2.heap[w.heap.size + 1]? = some (.cells #[.string nm, .int .i64 e0, .int .i64 e1, .int .i64 e2, .int .i64 e3, .int .i64 fn, .int .i64 fd, .int .i64 on, .int .i64 od, .int .i64 cd] 70 (0, 0)) := hW2 ▸ (World.putObj_heap_other (by omega)).trans j1
    have x2 : W2.heap[w.heap.size + 1 + 1]? = some (.cells #[.bool true] 4 (0, 0)) := hW2 ▸ (World.putObj_heap_other (by omega)).trans j2
    have hB2 : Below w.heap.size w W2 := hW2 ▸ jB.trans (belowK_b (w := w) (Nat.le_refl _) W1 D _ _ (by omega) hK1 rfl rfl)
    refine ⟨by simp, .inl ⟨_, _, rfl, run_takeDeferred hK1, ?_⟩⟩
    rw [hW2]
    clear hW2
    have s0 : W2.cell? ⟨w.heap.size + 1, 0, none⟩ = some (.string nm) := blk_cell x1 0
    have s1 : W2.cell? ⟨w.heap.size + 1, 1, none⟩ = some (.int .i64 e0) := blk_cell x1 1
    have s2 : W2.cell? ⟨w.heap.size + 1, 2, none⟩ = some (.int .i64 e1) := blk_cell x1 2
    have s3 : W2.cell? ⟨w.heap.size + 1, 3, none⟩ = some (.int .i64 e2) := blk_cell x1 3
    have s4 : W2.cell? ⟨w.heap.size + 1, 4, none⟩ = some (.int .i64 e3) := blk_cell x1 4
    have s5 : W2.cell? ⟨w.heap.size + 1, 5, none⟩ = some (.int .i64 fn) := blk_cell x1 5
    have s6 : W2.cell? ⟨w.heap.size + 1, 6, none⟩ = some (.int .i64 fd) := blk_cell x1 6
    have s7 : W2.cell? ⟨w.heap.size + 1, 7, none⟩ = some (.int .i64 on) := blk_cell x1 7
    have s8 : W2.cell? ⟨w.heap.size + 1, 8, none⟩ = some (.int .i64 od) := blk_cell x1 8
    have s9 : W2.cell? ⟨w.heap.size + 1, 9, none⟩ = some (.int .i64 cd) := blk_cell x1 9
    have s10 : W2.cell? ⟨w.heap.size + 1 + 1, 0, none⟩ = some (.bool true) := blk_cell x2 0
    refine ⟨_, by simp [results, Try.results39, go_sem, s0, s1, s2, s3, s4, s5, s6, s7, s8, s9, s10]; try rfl, ?_⟩
    try rw [hf]
    exact ⟨rfl, hB2⟩

theorem find_calls (name : ByteArray) (w : World) : Calls Try.prog 39 #[.string name] w fun e W' => e = .returned (.tuple #[((find name).getD zrow).val, .bool (find name).isSome]) ∧ Below w.heap.size w W' :=
  (callsIn_wide (n := 3)).1 (find_in 3 (Nat.le_refl _) name w)
end Go.Proofs.Ytcldlfhnmkogeaa.Unit

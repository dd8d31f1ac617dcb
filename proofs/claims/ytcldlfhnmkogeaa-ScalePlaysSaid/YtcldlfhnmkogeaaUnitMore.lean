import Derived.Test.YtcldlfhnmkogeaaUnitBase
import Derived.Test.YtcldlfhnmkogeaaRefMore
import Derived.Test.YtcldlfhnmkogeaaPOfx1
/- A conversion (unit.Convert), walked. -/
set_option linter.unusedVariables false
set_option linter.unusedSimpArgs false
namespace Go.Proofs.Ytcldlfhnmkogeaa.Unit
open Go.RowKit Go.Proofs.YtcldlfhnmkogeaaW.PrintWords Go.Proofs.YtcldlfhnmkogeaaW.PrintLast Go.Proofs.Ytcldlfhnmkogeaa.Nats Go.Proofs.Ytcldlfhnmkogeaa.HeapKit Go.Proofs.Ytcldlfhnmkogeaa.RatPlain Go.Proofs.Ytcldlfhnmkogeaa.Scale

section
variable {P : Program} {ops : Array Oper} {o : Oper} {a : Act} {Q : Exit → Act → World → Prop} {Kc : Act → World → Prop}
theorem lit_step {W : World} (hw : Region.wanted o (yielded ops a.tmps) = true) {N : Tmp} (_hd : o.dst = some N) {cs : Array Value} {t : TypeId} {n : Nat}
    (hrun : (execOp a.eval o).run P W = .ok (.value (.slice (some ⟨W.heap.size, 0, none⟩) n n)) (W.alloc (.cells cs t (0, 0))))
    (h : ∀ g, g = W.heap.size → ∀ w1, w1.heap[g]? = some (.cells cs t (0, 0)) → Below W.heap.size W w1 → Kc (a.put o.dst (.slice (some ⟨g, 0, none⟩) n n)) w1) : if Region.wanted o (yielded ops a.tmps) = true then Oper.wp P o a W Kc Q else Kc (a.put o.dst undef) W :=
  event_step hw hrun (h _ rfl _ (blk_new W _) (below_alloc (Below.refl _ _) _))
end
/-- What is known of each unit. -/
def URow.good (u : URow) : Prop := I64 u.fn ∧ I64 u.fd ∧ I64 u.on ∧ I64 u.od ∧ I64 (-u.on) ∧ 0 < u.fn ∧ Rt u.fn u.fd ∧ Rt u.on u.od
instance (u : URow) : Decidable u.good := by unfold URow.good; infer_instance
theorem units_good : ∀ u ∈ units, u.good := by decide +kernel
theorem find_good {s : ByteArray} {u : URow} (h : find s = some u) : u.good := units_good u (List.mem_of_find?_eq_some h)
/-- Of one kind. -/
def likeU (x y : URow) : Prop := x.d0 = y.d0 ∧ x.d1 = y.d1 ∧ x.d2 = y.d2 ∧ x.d3 = y.d3
instance (x y : URow) : Decidable (likeU x y) := by unfold likeU; infer_instance
/-- The steps from one unit to another one. -/
def stepsU (x y : URow) (r : Int × Int × Int) : Int × Int × Int := timesW (plusW (plusW (timesW r x.fn x.fd) x.on x.od) (-y.on) y.od) y.fd y.fn

theorem units_dims : ∀ u ∈ units, I64 u.d0 ∧ I64 u.d1 ∧ I64 u.d2 ∧ I64 u.d3 := by decide +kernel
theorem eqU {a b : ByteArray} {x y : URow} (ha : find a = some x) (hb : find b = some y) : ∀ w, (Op.equalIn 10000 46 (.agg #[.int .i64 x.d0, .int .i64 x.d1, .int .i64 x.d2, .int .i64 x.d3]) (.agg #[.int .i64 y.d0, .int .i64 y.d1, .int .i64 y.d2, .int .i64 y.d3])).run Try.prog w = .ok (decide (likeU x y)) w := by
  have hx := units_dims x (List.mem_of_find?_eq_some ha)
  have hy := units_dims y (List.mem_of_find?_eq_some hb)
  exact eq4 hx.1 hx.2.1 hx.2.2.1 hx.2.2.2 hy.1 hy.2.1 hy.2.2.1 hy.2.2.2

/-- The boxes of a conversion. -/
structure Cv (w wx : World) (vn vd : Int) (p8 p10 : Nat) (x y : URow) : Prop where
  b : B2 w wx (.cells #[.int .i64 vn, .int .i64 vd] 29) (.cells #[.int .i64 0, .int .i64 0] 29)
  k8 : wx.heap[p8]? = some (.cells #[.string x.name, .int .i64 x.d0, .int .i64 x.d1, .int .i64 x.d2, .int .i64 x.d3, .int .i64 x.fn, .int .i64 x.fd, .int .i64 x.on, .int .i64 x.od, .int .i64 x.code] 70 (0, 0))
  k10 : wx.heap[p10]? = some (.cells #[.string y.name, .int .i64 y.d0, .int .i64 y.d1, .int .i64 y.d2, .int .i64 y.d3, .int .i64 y.fn, .int .i64 y.fd, .int .i64 y.on, .int .i64 y.od, .int .i64 y.code] 70 (0, 0))
theorem Cv.step {w wx w2 : World} {vn vd : Int} {p8 p10 : Nat} {x y : URow} (h : Cv w wx vn vd p8 p10 x y) (hb : Below wx.heap.size wx w2) : Cv w w2 vn vd p8 p10 x y :=
  ⟨h.b.step hb, blk_below h.k8 hb, blk_below h.k10 hb⟩

theorem getD_some {x : URow} : (some x).getD zrow = x := rfl
set_option maxRecDepth 100000 in
set_option maxHeartbeats 4000000 in
theorem conv_missing {vn vd : Int} (h1 : I64 vn) (h2 : I64 vd) (a b : ByteArray) (hm : find a = none ∨ find b = none) (w : World) :
    Calls Try.prog 29 #[.agg #[.int .i64 vn, .int .i64 vd], .string a, .string b] w fun e w' => e = ans (0, 0, 4) ∧ Below w.heap.size w w' := by
  obtain ⟨x, ox, hx, hxo⟩ : ∃ x ox, (∀ w, Calls Try.prog 39 #[.string a] w fun e W' => e = .returned (.tuple #[URow.val x, .bool ox]) ∧ Below w.heap.size w W') ∧ (find a).isSome = ox := ⟨_, _, find_calls a, rfl⟩
  obtain ⟨y, oy, hy, hyo⟩ : ∃ x ox, (∀ w, Calls Try.prog 39 #[.string b] w fun e W' => e = .returned (.tuple #[URow.val x, .bool ox]) ∧ Below w.heap.size w W') ∧ (find b).isSome = ox := ⟨_, _, find_calls b, rfl⟩
  have hoo : ox = false ∨ oy = false := by
    rcases hm with h | h
    · left; rw [← hxo, h]; rfl
    · right; rw [← hyo, h]; rfl
  simp only [URow.val] at hx hy
  have FA := Lib.hid hx
  have FB := Lib.hid hy
  clear hx hy hxo hyo hm
  go_enter Try.func29, Try.ntmps29
  go_wp2_with fail
  refine (FA.out _).mono ?_
  rintro e w1 ⟨rfl, hb1⟩
  have hB := (b2_start w (.cells #[.int .i64 vn, .int .i64 vd] 29) (.cells #[.int .i64 0, .int .i64 0] 29)).step hb1
  clear hb1
  have hB2 := hB.step (below_alloc (Below.refl _ _) (.cells #[.string x.name, .int .i64 x.d0, .int .i64 x.d1, .int .i64 x.d2, .int .i64 x.d3, .int .i64 x.fn, .int .i64 x.fd, .int .i64 x.on, .int .i64 x.od, .int .i64 x.code] 70))
  clear hB
  go_wp2_with fail
  refine (FB.out _).mono ?_
  rintro e w2 ⟨rfl, hb2⟩
  have hB3 := hB2.step hb2
  clear hb2 hB2
  have hB := hB3.step (below_alloc (Below.refl _ _) (.cells #[.string y.name, .int .i64 y.d0, .int .i64 y.d1, .int .i64 y.d2, .int .i64 y.d3, .int .i64 y.fn, .int .i64 y.fd, .int .i64 y.on, .int .i64 y.od, .int .i64 y.code] 70))
  clear hB3
  have hoo2 : ox = false ∨ (ox = true ∧ oy = false) := by
    cases ox with
    | false => exact .inl rfl
    | true => exact .inr ⟨rfl, hoo.elim (fun h => by cases h) id⟩
  clear hoo
  rcases hoo2 with rfl | ⟨rfl, rfl⟩
  · skip
    have hx_ := hB.b2
    have d_0 : (w2.alloc (.cells #[.string y.name, .int .i64 y.d0, .int .i64 y.d1, .int .i64 y.d2, .int .i64 y.d3, .int .i64 y.fn, .int .i64 y.fd, .int .i64 y.on, .int .i64 y.od, .int .i64 y.code] 70)).cell? ⟨w.heap.size + 1, 0, none⟩ = some (.int .i64 0) := blk_cell hx_ 0
    have df_0 : (w2.alloc (.cells #[.string y.name, .int .i64 y.d0, .int .i64 y.d1, .int .i64 y.d2, .int .i64 y.d3, .int .i64 y.fn, .int .i64 y.fd, .int .i64 y.on, .int .i64 y.od, .int .i64 y.code] 70)).frozen? ⟨w.heap.size + 1, 0, none⟩ = false := blk_frozen hx_ 0
    have d_1 : (w2.alloc (.cells #[.string y.name, .int .i64 y.d0, .int .i64 y.d1, .int .i64 y.d2, .int .i64 y.d3, .int .i64 y.fn, .int .i64 y.fd, .int .i64 y.on, .int .i64 y.od, .int .i64 y.code] 70)).cell? ⟨w.heap.size + 1, 1, none⟩ = some (.int .i64 0) := blk_cell hx_ 1
    have df_1 : (w2.alloc (.cells #[.string y.name, .int .i64 y.d0, .int .i64 y.d1, .int .i64 y.d2, .int .i64 y.d3, .int .i64 y.fn, .int .i64 y.fd, .int .i64 y.on, .int .i64 y.od, .int .i64 y.code] 70)).frozen? ⟨w.heap.size + 1, 1, none⟩ = false := blk_frozen hx_ 1
    go_wp2_with fail
    have k_ := (blk_set (blk_set hx_ 0 (.int .i64 0)) 1 (.int .i64 0))
    have hB_ := (Below.setCell (Below.setCell hB.be (p := ⟨w.heap.size + 1, 0, none⟩) ((by show w.heap.size ≤ w.heap.size + 1; omega)) (.int .i64 0)) (p := ⟨w.heap.size + 1, 1, none⟩) ((by show w.heap.size ≤ w.heap.size + 1; omega)) (.int .i64 0))
    obtain ⟨w_, hw_⟩ : ∃ w_, w_ = (World.setCell (World.setCell (w2.alloc (.cells #[.string y.name, .int .i64 y.d0, .int .i64 y.d1, .int .i64 y.d2, .int .i64 y.d3, .int .i64 y.fn, .int .i64 y.fd, .int .i64 y.on, .int .i64 y.od, .int .i64 y.code] 70)) ⟨w.heap.size + 1, 0, none⟩ (.int .i64 0)) ⟨w.heap.size + 1, 1, none⟩ (.int .i64 0)) := ⟨_, rfl⟩
    rw [← hw_] at k_ hB_
    try rw [← hw_]
    clear hw_
    have s_0 : w_.cell? ⟨w.heap.size + 1, 0, none⟩ = some (.int .i64 0) := blk_cell k_ 0
    have s_1 : w_.cell? ⟨w.heap.size + 1, 1, none⟩ = some (.int .i64 0) := blk_cell k_ 1
    refine bodyPost_ret (by simp [results, Try.results29, go_sem, s_0, s_1]; try rfl) rfl ?_
    exact ⟨rfl, hB_⟩
  · skip
    have hx_ := hB.b2
    have d_0 : (w2.alloc (.cells #[.string y.name, .int .i64 y.d0, .int .i64 y.d1, .int .i64 y.d2, .int .i64 y.d3, .int .i64 y.fn, .int .i64 y.fd, .int .i64 y.on, .int .i64 y.od, .int .i64 y.code] 70)).cell? ⟨w.heap.size + 1, 0, none⟩ = some (.int .i64 0) := blk_cell hx_ 0
    have df_0 : (w2.alloc (.cells #[.string y.name, .int .i64 y.d0, .int .i64 y.d1, .int .i64 y.d2, .int .i64 y.d3, .int .i64 y.fn, .int .i64 y.fd, .int .i64 y.on, .int .i64 y.od, .int .i64 y.code] 70)).frozen? ⟨w.heap.size + 1, 0, none⟩ = false := blk_frozen hx_ 0
    have d_1 : (w2.alloc (.cells #[.string y.name, .int .i64 y.d0, .int .i64 y.d1, .int .i64 y.d2, .int .i64 y.d3, .int .i64 y.fn, .int .i64 y.fd, .int .i64 y.on, .int .i64 y.od, .int .i64 y.code] 70)).cell? ⟨w.heap.size + 1, 1, none⟩ = some (.int .i64 0) := blk_cell hx_ 1
    have df_1 : (w2.alloc (.cells #[.string y.name, .int .i64 y.d0, .int .i64 y.d1, .int .i64 y.d2, .int .i64 y.d3, .int .i64 y.fn, .int .i64 y.fd, .int .i64 y.on, .int .i64 y.od, .int .i64 y.code] 70)).frozen? ⟨w.heap.size + 1, 1, none⟩ = false := blk_frozen hx_ 1
    go_wp2_with fail
    have k_ := (blk_set (blk_set hx_ 0 (.int .i64 0)) 1 (.int .i64 0))
    have hB_ := (Below.setCell (Below.setCell hB.be (p := ⟨w.heap.size + 1, 0, none⟩) ((by show w.heap.size ≤ w.heap.size + 1; omega)) (.int .i64 0)) (p := ⟨w.heap.size + 1, 1, none⟩) ((by show w.heap.size ≤ w.heap.size + 1; omega)) (.int .i64 0))
    obtain ⟨w_, hw_⟩ : ∃ w_, w_ = (World.setCell (World.setCell (w2.alloc (.cells #[.string y.name, .int .i64 y.d0, .int .i64 y.d1, .int .i64 y.d2, .int .i64 y.d3, .int .i64 y.fn, .int .i64 y.fd, .int .i64 y.on, .int .i64 y.od, .int .i64 y.code] 70)) ⟨w.heap.size + 1, 0, none⟩ (.int .i64 0)) ⟨w.heap.size + 1, 1, none⟩ (.int .i64 0)) := ⟨_, rfl⟩
    rw [← hw_] at k_ hB_
    try rw [← hw_]
    clear hw_
    have s_0 : w_.cell? ⟨w.heap.size + 1, 0, none⟩ = some (.int .i64 0) := blk_cell k_ 0
    have s_1 : w_.cell? ⟨w.heap.size + 1, 1, none⟩ = some (.int .i64 0) := blk_cell k_ 1
    refine bodyPost_ret (by simp [results, Try.results29, go_sem, s_0, s_1]; try rfl) rfl ?_
    exact ⟨rfl, hB_⟩

set_option maxRecDepth 100000 in
set_option maxHeartbeats 4000000 in
theorem conv_unlike {vn vd : Int} (h1 : I64 vn) (h2 : I64 vd) (a b : ByteArray) (x y : URow) (ha : find a = some x) (hb : find b = some y) (hl : ¬ likeU x y) (w : World) :
    Calls Try.prog 29 #[.agg #[.int .i64 vn, .int .i64 vd], .string a, .string b] w fun e w' => e = ans (0, 0, 5) ∧ Below w.heap.size w w' := by
  have hq := eqU ha hb
  simp only [decide_eq_false hl] at hq
  have fa := fun w => find_calls a w
  have fb := fun w => find_calls b w
  simp only [ha, Option.getD_some, Option.isSome_some, URow.val] at fa
  simp only [hb, Option.getD_some, Option.isSome_some, URow.val] at fb
  have FA := Lib.hid fa
  have FB := Lib.hid fb
  clear fa fb
  go_enter Try.func29, Try.ntmps29
  go_wp2_with fail
  refine (FA.out _).mono ?_
  rintro e w1 ⟨rfl, hb1⟩
  have hB := (b2_start w (.cells #[.int .i64 vn, .int .i64 vd] 29) (.cells #[.int .i64 0, .int .i64 0] 29)).step hb1
  clear hb1
  have k1 := blk_new w1 (.cells #[.string x.name, .int .i64 x.d0, .int .i64 x.d1, .int .i64 x.d2, .int .i64 x.d3, .int .i64 x.fn, .int .i64 x.fd, .int .i64 x.on, .int .i64 x.od, .int .i64 x.code] 70)
  have hB2 := hB.step (below_alloc (Below.refl _ _) (.cells #[.string x.name, .int .i64 x.d0, .int .i64 x.d1, .int .i64 x.d2, .int .i64 x.d3, .int .i64 x.fn, .int .i64 x.fd, .int .i64 x.on, .int .i64 x.od, .int .i64 x.code] 70))
  have z1 := hB.size
  clear hB
  go_wp2_with fail
  refine (FB.out _).mono ?_
  rintro e w2 ⟨rfl, hb2⟩
  have hB3 := hB2.step hb2
  have k2 := blk_below k1 hb2
  obtain ⟨p8, hp8⟩ : ∃ p, p = w1.heap.size := ⟨_, rfl⟩
  rw [← hp8] at z1 k2 ⊢
  clear hp8 k1 hb2 hB2
  have hCv : Cv w (w2.alloc (.cells #[.string y.name, .int .i64 y.d0, .int .i64 y.d1, .int .i64 y.d2, .int .i64 y.d3, .int .i64 y.fn, .int .i64 y.fd, .int .i64 y.on, .int .i64 y.od, .int .i64 y.code] 70)) vn vd p8 w2.heap.size x y := ⟨hB3.step (below_alloc (Below.refl _ _) _), blk_alloc k2 _, blk_new w2 _⟩
  clear hB3 k2
  have x0 : (w2.alloc (.cells #[.string y.name, .int .i64 y.d0, .int .i64 y.d1, .int .i64 y.d2, .int .i64 y.d3, .int .i64 y.fn, .int .i64 y.fd, .int .i64 y.on, .int .i64 y.od, .int .i64 y.code] 70)).cell? ⟨p8, 0, none⟩ = some (.string x.name) := blk_cell hCv.k8 0
  have x1 : (w2.alloc (.cells #[.string y.name, .int .i64 y.d0, .int .i64 y.d1, .int .i64 y.d2, .int .i64 y.d3, .int .i64 y.fn, .int .i64 y.fd, .int .i64 y.on, .int .i64 y.od, .int .i64 y.code] 70)).cell? ⟨p8, 1, none⟩ = some (.int .i64 x.d0) := blk_cell hCv.k8 1
  have x2 : (w2.alloc (.cells #[.string y.name, .int .i64 y.d0, .int .i64 y.d1, .int .i64 y.d2, .int .i64 y.d3, .int .i64 y.fn, .int .i64 y.fd, .int .i64 y.on, .int .i64 y.od, .int .i64 y.code] 70)).cell? ⟨p8, 2, none⟩ = some (.int .i64 x.d1) := blk_cell hCv.k8 2
  have x3 : (w2.alloc (.cells #[.string y.name, .int .i64 y.d0, .int .i64 y.d1, .int .i64 y.d2, .int .i64 y.d3, .int .i64 y.fn, .int .i64 y.fd, .int .i64 y.on, .int .i64 y.od, .int .i64 y.code] 70)).cell? ⟨p8, 3, none⟩ = some (.int .i64 x.d2) := blk_cell hCv.k8 3
  have x4 : (w2.alloc (.cells #[.string y.name, .int .i64 y.d0, .int .i64 y.d1, .int .i64 y.d2, .int .i64 y.d3, .int .i64 y.fn, .int .i64 y.fd, .int .i64 y.on, .int .i64 y.od, .int .i64 y.code] 70)).cell? ⟨p8, 4, none⟩ = some (.int .i64 x.d3) := blk_cell hCv.k8 4
  have x5 : (w2.alloc (.cells #[.string y.name, .int .i64 y.d0, .int .i64 y.d1, .int .i64 y.d2, .int .i64 y.d3, .int .i64 y.fn, .int .i64 y.fd, .int .i64 y.on, .int .i64 y.od, .int .i64 y.code] 70)).cell? ⟨p8, 5, none⟩ = some (.int .i64 x.fn) := blk_cell hCv.k8 5
  have x6 : (w2.alloc (.cells #[.string y.name, .int .i64 y.d0, .int .i64 y.d1, .int .i64 y.d2, .int .i64 y.d3, .int .i64 y.fn, .int .i64 y.fd, .int .i64 y.on, .int .i64 y.od, .int .i64 y.code] 70)).cell? ⟨p8, 6, none⟩ = some (.int .i64 x.fd) := blk_cell hCv.k8 6
  have x7 : (w2.alloc (.cells #[.string y.name, .int .i64 y.d0, .int .i64 y.d1, .int .i64 y.d2, .int .i64 y.d3, .int .i64 y.fn, .int .i64 y.fd, .int .i64 y.on, .int .i64 y.od, .int .i64 y.code] 70)).cell? ⟨p8, 7, none⟩ = some (.int .i64 x.on) := blk_cell hCv.k8 7
  have x8 : (w2.alloc (.cells #[.string y.name, .int .i64 y.d0, .int .i64 y.d1, .int .i64 y.d2, .int .i64 y.d3, .int .i64 y.fn, .int .i64 y.fd, .int .i64 y.on, .int .i64 y.od, .int .i64 y.code] 70)).cell? ⟨p8, 8, none⟩ = some (.int .i64 x.od) := blk_cell hCv.k8 8
  have x9 : (w2.alloc (.cells #[.string y.name, .int .i64 y.d0, .int .i64 y.d1, .int .i64 y.d2, .int .i64 y.d3, .int .i64 y.fn, .int .i64 y.fd, .int .i64 y.on, .int .i64 y.od, .int .i64 y.code] 70)).cell? ⟨p8, 9, none⟩ = some (.int .i64 x.code) := blk_cell hCv.k8 9
  have y0 : (w2.alloc (.cells #[.string y.name, .int .i64 y.d0, .int .i64 y.d1, .int .i64 y.d2, .int .i64 y.d3, .int .i64 y.fn, .int .i64 y.fd, .int .i64 y.on, .int .i64 y.od, .int .i64 y.code] 70)).cell? ⟨w2.heap.size, 0, none⟩ = some (.string y.name) := blk_cell hCv.k10 0
  have y1 : (w2.alloc (.cells #[.string y.name, .int .i64 y.d0, .int .i64 y.d1, .int .i64 y.d2, .int .i64 y.d3, .int .i64 y.fn, .int .i64 y.fd, .int .i64 y.on, .int .i64 y.od, .int .i64 y.code] 70)).cell? ⟨w2.heap.size, 1, none⟩ = some (.int .i64 y.d0) := blk_cell hCv.k10 1
  have y2 : (w2.alloc (.cells #[.string y.name, .int .i64 y.d0, .int .i64 y.d1, .int .i64 y.d2, .int .i64 y.d3, .int .i64 y.fn, .int .i64 y.fd, .int .i64 y.on, .int .i64 y.od, .int .i64 y.code] 70)).cell? ⟨w2.heap.size, 2, none⟩ = some (.int .i64 y.d1) := blk_cell hCv.k10 2
  have y3 : (w2.alloc (.cells #[.string y.name, .int .i64 y.d0, .int .i64 y.d1, .int .i64 y.d2, .int .i64 y.d3, .int .i64 y.fn, .int .i64 y.fd, .int .i64 y.on, .int .i64 y.od, .int .i64 y.code] 70)).cell? ⟨w2.heap.size, 3, none⟩ = some (.int .i64 y.d2) := blk_cell hCv.k10 3
  have y4 : (w2.alloc (.cells #[.string y.name, .int .i64 y.d0, .int .i64 y.d1, .int .i64 y.d2, .int .i64 y.d3, .int .i64 y.fn, .int .i64 y.fd, .int .i64 y.on, .int .i64 y.od, .int .i64 y.code] 70)).cell? ⟨w2.heap.size, 4, none⟩ = some (.int .i64 y.d3) := blk_cell hCv.k10 4
  have y5 : (w2.alloc (.cells #[.string y.name, .int .i64 y.d0, .int .i64 y.d1, .int .i64 y.d2, .int .i64 y.d3, .int .i64 y.fn, .int .i64 y.fd, .int .i64 y.on, .int .i64 y.od, .int .i64 y.code] 70)).cell? ⟨w2.heap.size, 5, none⟩ = some (.int .i64 y.fn) := blk_cell hCv.k10 5
  have y6 : (w2.alloc (.cells #[.string y.name, .int .i64 y.d0, .int .i64 y.d1, .int .i64 y.d2, .int .i64 y.d3, .int .i64 y.fn, .int .i64 y.fd, .int .i64 y.on, .int .i64 y.od, .int .i64 y.code] 70)).cell? ⟨w2.heap.size, 6, none⟩ = some (.int .i64 y.fd) := blk_cell hCv.k10 6
  have y7 : (w2.alloc (.cells #[.string y.name, .int .i64 y.d0, .int .i64 y.d1, .int .i64 y.d2, .int .i64 y.d3, .int .i64 y.fn, .int .i64 y.fd, .int .i64 y.on, .int .i64 y.od, .int .i64 y.code] 70)).cell? ⟨w2.heap.size, 7, none⟩ = some (.int .i64 y.on) := blk_cell hCv.k10 7
  have y8 : (w2.alloc (.cells #[.string y.name, .int .i64 y.d0, .int .i64 y.d1, .int .i64 y.d2, .int .i64 y.d3, .int .i64 y.fn, .int .i64 y.fd, .int .i64 y.on, .int .i64 y.od, .int .i64 y.code] 70)).cell? ⟨w2.heap.size, 8, none⟩ = some (.int .i64 y.od) := blk_cell hCv.k10 8
  have y9 : (w2.alloc (.cells #[.string y.name, .int .i64 y.d0, .int .i64 y.d1, .int .i64 y.d2, .int .i64 y.d3, .int .i64 y.fn, .int .i64 y.fd, .int .i64 y.on, .int .i64 y.od, .int .i64 y.code] 70)).cell? ⟨w2.heap.size, 9, none⟩ = some (.int .i64 y.code) := blk_cell hCv.k10 9
  have v0 : (w2.alloc (.cells #[.string y.name, .int .i64 y.d0, .int .i64 y.d1, .int .i64 y.d2, .int .i64 y.d3, .int .i64 y.fn, .int .i64 y.fd, .int .i64 y.on, .int .i64 y.od, .int .i64 y.code] 70)).cell? ⟨w.heap.size, 0, none⟩ = some (.int .i64 vn) := blk_cell hCv.b.b1 0
  have v1 : (w2.alloc (.cells #[.string y.name, .int .i64 y.d0, .int .i64 y.d1, .int .i64 y.d2, .int .i64 y.d3, .int .i64 y.fn, .int .i64 y.fd, .int .i64 y.on, .int .i64 y.od, .int .i64 y.code] 70)).cell? ⟨w.heap.size, 1, none⟩ = some (.int .i64 vd) := blk_cell hCv.b.b1 1
  have hB := hCv.b
  have hx_ := hB.b2
  have d_0 : (w2.alloc (.cells #[.string y.name, .int .i64 y.d0, .int .i64 y.d1, .int .i64 y.d2, .int .i64 y.d3, .int .i64 y.fn, .int .i64 y.fd, .int .i64 y.on, .int .i64 y.od, .int .i64 y.code] 70)).cell? ⟨w.heap.size + 1, 0, none⟩ = some (.int .i64 0) := blk_cell hx_ 0
  have df_0 : (w2.alloc (.cells #[.string y.name, .int .i64 y.d0, .int .i64 y.d1, .int .i64 y.d2, .int .i64 y.d3, .int .i64 y.fn, .int .i64 y.fd, .int .i64 y.on, .int .i64 y.od, .int .i64 y.code] 70)).frozen? ⟨w.heap.size + 1, 0, none⟩ = false := blk_frozen hx_ 0
  have d_1 : (w2.alloc (.cells #[.string y.name, .int .i64 y.d0, .int .i64 y.d1, .int .i64 y.d2, .int .i64 y.d3, .int .i64 y.fn, .int .i64 y.fd, .int .i64 y.on, .int .i64 y.od, .int .i64 y.code] 70)).cell? ⟨w.heap.size + 1, 1, none⟩ = some (.int .i64 0) := blk_cell hx_ 1
  have df_1 : (w2.alloc (.cells #[.string y.name, .int .i64 y.d0, .int .i64 y.d1, .int .i64 y.d2, .int .i64 y.d3, .int .i64 y.fn, .int .i64 y.fd, .int .i64 y.on, .int .i64 y.od, .int .i64 y.code] 70)).frozen? ⟨w.heap.size + 1, 1, none⟩ = false := blk_frozen hx_ 1
  go_wp2_with fail
  have k_ := (blk_set (blk_set hx_ 0 (.int .i64 0)) 1 (.int .i64 0))
  have hB_ := (Below.setCell (Below.setCell hB.be (p := ⟨w.heap.size + 1, 0, none⟩) ((by show w.heap.size ≤ w.heap.size + 1; omega)) (.int .i64 0)) (p := ⟨w.heap.size + 1, 1, none⟩) ((by show w.heap.size ≤ w.heap.size + 1; omega)) (.int .i64 0))
  obtain ⟨w_, hw_⟩ : ∃ w_, w_ = (World.setCell (World.setCell (w2.alloc (.cells #[.string y.name, .int .i64 y.d0, .int .i64 y.d1, .int .i64 y.d2, .int .i64 y.d3, .int .i64 y.fn, .int .i64 y.fd, .int .i64 y.on, .int .i64 y.od, .int .i64 y.code] 70)) ⟨w.heap.size + 1, 0, none⟩ (.int .i64 0)) ⟨w.heap.size + 1, 1, none⟩ (.int .i64 0)) := ⟨_, rfl⟩
  rw [← hw_] at k_ hB_
  try rw [← hw_]
  clear hw_
  have s_0 : w_.cell? ⟨w.heap.size + 1, 0, none⟩ = some (.int .i64 0) := blk_cell k_ 0
  have s_1 : w_.cell? ⟨w.heap.size + 1, 1, none⟩ = some (.int .i64 0) := blk_cell k_ 1
  refine bodyPost_ret (by simp [results, Try.results29, go_sem, s_0, s_1]; try rfl) rfl ?_
  exact ⟨rfl, hB_⟩

set_option maxRecDepth 100000 in
set_option maxHeartbeats 4000000 in
theorem conv_wrong {vn vd : Int} (h1 : I64 vn) (h2 : I64 vd) (a b : ByteArray) (x y : URow) (ha : find a = some x) (hb : find b = some y) (hl : likeU x y) (hv : ¬ Rt vn vd) (w : World) :
    Calls Try.prog 29 #[.agg #[.int .i64 vn, .int .i64 vd], .string a, .string b] w fun e w' => e = ans (0, 0, 1) ∧ Below w.heap.size w w' := by
  have hq := eqU ha hb
  simp only [decide_eq_true hl] at hq
  have hrv := fun w => right_calls h1 h2 w
  simp only [decide_eq_false hv] at hrv
  have HRV := Lib.hid hrv
  clear hrv
  have fa := fun w => find_calls a w
  have fb := fun w => find_calls b w
  simp only [ha, Option.getD_some, Option.isSome_some, URow.val] at fa
  simp only [hb, Option.getD_some, Option.isSome_some, URow.val] at fb
  have FA := Lib.hid fa
  have FB := Lib.hid fb
  clear fa fb
  go_enter Try.func29, Try.ntmps29
  go_wp2_with fail
  refine (FA.out _).mono ?_
  rintro e w1 ⟨rfl, hb1⟩
  have hB := (b2_start w (.cells #[.int .i64 vn, .int .i64 vd] 29) (.cells #[.int .i64 0, .int .i64 0] 29)).step hb1
  clear hb1
  have k1 := blk_new w1 (.cells #[.string x.name, .int .i64 x.d0, .int .i64 x.d1, .int .i64 x.d2, .int .i64 x.d3, .int .i64 x.fn, .int .i64 x.fd, .int .i64 x.on, .int .i64 x.od, .int .i64 x.code] 70)
  have hB2 := hB.step (below_alloc (Below.refl _ _) (.cells #[.string x.name, .int .i64 x.d0, .int .i64 x.d1, .int .i64 x.d2, .int .i64 x.d3, .int .i64 x.fn, .int .i64 x.fd, .int .i64 x.on, .int .i64 x.od, .int .i64 x.code] 70))
  have z1 := hB.size
  clear hB
  go_wp2_with fail
  refine (FB.out _).mono ?_
  rintro e w2 ⟨rfl, hb2⟩
  have hB3 := hB2.step hb2
  have k2 := blk_below k1 hb2
  obtain ⟨p8, hp8⟩ : ∃ p, p = w1.heap.size := ⟨_, rfl⟩
  rw [← hp8] at z1 k2 ⊢
  clear hp8 k1 hb2 hB2
  have hCv : Cv w (w2.alloc (.cells #[.string y.name, .int .i64 y.d0, .int .i64 y.d1, .int .i64 y.d2, .int .i64 y.d3, .int .i64 y.fn, .int .i64 y.fd, .int .i64 y.on, .int .i64 y.od, .int .i64 y.code] 70)) vn vd p8 w2.heap.size x y := ⟨hB3.step (below_alloc (Below.refl _ _) _), blk_alloc k2 _, blk_new w2 _⟩
  have k2k := k2
  clear hB3 k2
  have x0 : (w2.alloc (.cells #[.string y.name, .int .i64 y.d0, .int .i64 y.d1, .int .i64 y.d2, .int .i64 y.d3, .int .i64 y.fn, .int .i64 y.fd, .int .i64 y.on, .int .i64 y.od, .int .i64 y.code] 70)).cell? ⟨p8, 0, none⟩ = some (.string x.name) := blk_cell hCv.k8 0
  have x1 : (w2.alloc (.cells #[.string y.name, .int .i64 y.d0, .int .i64 y.d1, .int .i64 y.d2, .int .i64 y.d3, .int .i64 y.fn, .int .i64 y.fd, .int .i64 y.on, .int .i64 y.od, .int .i64 y.code] 70)).cell? ⟨p8, 1, none⟩ = some (.int .i64 x.d0) := blk_cell hCv.k8 1
  have x2 : (w2.alloc (.cells #[.string y.name, .int .i64 y.d0, .int .i64 y.d1, .int .i64 y.d2, .int .i64 y.d3, .int .i64 y.fn, .int .i64 y.fd, .int .i64 y.on, .int .i64 y.od, .int .i64 y.code] 70)).cell? ⟨p8, 2, none⟩ = some (.int .i64 x.d1) := blk_cell hCv.k8 2
  have x3 : (w2.alloc (.cells #[.string y.name, .int .i64 y.d0, .int .i64 y.d1, .int .i64 y.d2, .int .i64 y.d3, .int .i64 y.fn, .int .i64 y.fd, .int .i64 y.on, .int .i64 y.od, .int .i64 y.code] 70)).cell? ⟨p8, 3, none⟩ = some (.int .i64 x.d2) := blk_cell hCv.k8 3
  have x4 : (w2.alloc (.cells #[.string y.name, .int .i64 y.d0, .int .i64 y.d1, .int .i64 y.d2, .int .i64 y.d3, .int .i64 y.fn, .int .i64 y.fd, .int .i64 y.on, .int .i64 y.od, .int .i64 y.code] 70)).cell? ⟨p8, 4, none⟩ = some (.int .i64 x.d3) := blk_cell hCv.k8 4
  have x5 : (w2.alloc (.cells #[.string y.name, .int .i64 y.d0, .int .i64 y.d1, .int .i64 y.d2, .int .i64 y.d3, .int .i64 y.fn, .int .i64 y.fd, .int .i64 y.on, .int .i64 y.od, .int .i64 y.code] 70)).cell? ⟨p8, 5, none⟩ = some (.int .i64 x.fn) := blk_cell hCv.k8 5
  have x6 : (w2.alloc (.cells #[.string y.name, .int .i64 y.d0, .int .i64 y.d1, .int .i64 y.d2, .int .i64 y.d3, .int .i64 y.fn, .int .i64 y.fd, .int .i64 y.on, .int .i64 y.od, .int .i64 y.code] 70)).cell? ⟨p8, 6, none⟩ = some (.int .i64 x.fd) := blk_cell hCv.k8 6
  have x7 : (w2.alloc (.cells #[.string y.name, .int .i64 y.d0, .int .i64 y.d1, .int .i64 y.d2, .int .i64 y.d3, .int .i64 y.fn, .int .i64 y.fd, .int .i64 y.on, .int .i64 y.od, .int .i64 y.code] 70)).cell? ⟨p8, 7, none⟩ = some (.int .i64 x.on) := blk_cell hCv.k8 7
  have x8 : (w2.alloc (.cells #[.string y.name, .int .i64 y.d0, .int .i64 y.d1, .int .i64 y.d2, .int .i64 y.d3, .int .i64 y.fn, .int .i64 y.fd, .int .i64 y.on, .int .i64 y.od, .int .i64 y.code] 70)).cell? ⟨p8, 8, none⟩ = some (.int .i64 x.od) := blk_cell hCv.k8 8
  have x9 : (w2.alloc (.cells #[.string y.name, .int .i64 y.d0, .int .i64 y.d1, .int .i64 y.d2, .int .i64 y.d3, .int .i64 y.fn, .int .i64 y.fd, .int .i64 y.on, .int .i64 y.od, .int .i64 y.code] 70)).cell? ⟨p8, 9, none⟩ = some (.int .i64 x.code) := blk_cell hCv.k8 9
  have y0 : (w2.alloc (.cells #[.string y.name, .int .i64 y.d0, .int .i64 y.d1, .int .i64 y.d2, .int .i64 y.d3, .int .i64 y.fn, .int .i64 y.fd, .int .i64 y.on, .int .i64 y.od, .int .i64 y.code] 70)).cell? ⟨w2.heap.size, 0, none⟩ = some (.string y.name) := blk_cell hCv.k10 0
  have y1 : (w2.alloc (.cells #[.string y.name, .int .i64 y.d0, .int .i64 y.d1, .int .i64 y.d2, .int .i64 y.d3, .int .i64 y.fn, .int .i64 y.fd, .int .i64 y.on, .int .i64 y.od, .int .i64 y.code] 70)).cell? ⟨w2.heap.size, 1, none⟩ = some (.int .i64 y.d0) := blk_cell hCv.k10 1
  have y2 : (w2.alloc (.cells #[.string y.name, .int .i64 y.d0, .int .i64 y.d1, .int .i64 y.d2, .int .i64 y.d3, .int .i64 y.fn, .int .i64 y.fd, .int .i64 y.on, .int .i64 y.od, .int .i64 y.code] 70)).cell? ⟨w2.heap.size, 2, none⟩ = some (.int .i64 y.d1) := blk_cell hCv.k10 2
  have y3 : (w2.alloc (.cells #[.string y.name, .int .i64 y.d0, .int .i64 y.d1, .int .i64 y.d2, .int .i64 y.d3, .int .i64 y.fn, .int .i64 y.fd, .int .i64 y.on, .int .i64 y.od, .int .i64 y.code] 70)).cell? ⟨w2.heap.size, 3, none⟩ = some (.int .i64 y.d2) := blk_cell hCv.k10 3
  have y4 : (w2.alloc (.cells #[.string y.name, .int .i64 y.d0, .int .i64 y.d1, .int .i64 y.d2, .int .i64 y.d3, .int .i64 y.fn, .int .i64 y.fd, .int .i64 y.on, .int .i64 y.od, .int .i64 y.code] 70)).cell? ⟨w2.heap.size, 4, none⟩ = some (.int .i64 y.d3) := blk_cell hCv.k10 4
  have y5 : (w2.alloc (.cells #[.string y.name, .int .i64 y.d0, .int .i64 y.d1, .int .i64 y.d2, .int .i64 y.d3, .int .i64 y.fn, .int .i64 y.fd, .int .i64 y.on, .int .i64 y.od, .int .i64 y.code] 70)).cell? ⟨w2.heap.size, 5, none⟩ = some (.int .i64 y.fn) := blk_cell hCv.k10 5
  have y6 : (w2.alloc (.cells #[.string y.name, .int .i64 y.d0, .int .i64 y.d1, .int .i64 y.d2, .int .i64 y.d3, .int .i64 y.fn, .int .i64 y.fd, .int .i64 y.on, .int .i64 y.od, .int .i64 y.code] 70)).cell? ⟨w2.heap.size, 6, none⟩ = some (.int .i64 y.fd) := blk_cell hCv.k10 6
  have y7 : (w2.alloc (.cells #[.string y.name, .int .i64 y.d0, .int .i64 y.d1, .int .i64 y.d2, .int .i64 y.d3, .int .i64 y.fn, .int .i64 y.fd, .int .i64 y.on, .int .i64 y.od, .int .i64 y.code] 70)).cell? ⟨w2.heap.size, 7, none⟩ = some (.int .i64 y.on) := blk_cell hCv.k10 7
  have y8 : (w2.alloc (.cells #[.string y.name, .int .i64 y.d0, .int .i64 y.d1, .int .i64 y.d2, .int .i64 y.d3, .int .i64 y.fn, .int .i64 y.fd, .int .i64 y.on, .int .i64 y.od, .int .i64 y.code] 70)).cell? ⟨w2.heap.size, 8, none⟩ = some (.int .i64 y.od) := blk_cell hCv.k10 8
  have y9 : (w2.alloc (.cells #[.string y.name, .int .i64 y.d0, .int .i64 y.d1, .int .i64 y.d2, .int .i64 y.d3, .int .i64 y.fn, .int .i64 y.fd, .int .i64 y.on, .int .i64 y.od, .int .i64 y.code] 70)).cell? ⟨w2.heap.size, 9, none⟩ = some (.int .i64 y.code) := blk_cell hCv.k10 9
  have v0 : (w2.alloc (.cells #[.string y.name, .int .i64 y.d0, .int .i64 y.d1, .int .i64 y.d2, .int .i64 y.d3, .int .i64 y.fn, .int .i64 y.fd, .int .i64 y.on, .int .i64 y.od, .int .i64 y.code] 70)).cell? ⟨w.heap.size, 0, none⟩ = some (.int .i64 vn) := blk_cell hCv.b.b1 0
  have v1 : (w2.alloc (.cells #[.string y.name, .int .i64 y.d0, .int .i64 y.d1, .int .i64 y.d2, .int .i64 y.d3, .int .i64 y.fn, .int .i64 y.fd, .int .i64 y.on, .int .i64 y.od, .int .i64 y.code] 70)).cell? ⟨w.heap.size, 1, none⟩ = some (.int .i64 vd) := blk_cell hCv.b.b1 1
  go_wp2_with fail
  refine (HRV.out _).mono ?_
  rintro e w3 ⟨rfl, hb3⟩
  replace hCv := hCv.step hb3
  obtain ⟨p10, hp10⟩ : ∃ p, p = w2.heap.size := ⟨_, rfl⟩
  have z2 : p8 < w2.heap.size := by
    have := blk_lt k2k
    exact this
  rw [← hp10] at hCv z2 ⊢
  clear hp10 hb3 k2k x0 x1 x2 x3 x4 x5 x6 x7 x8 x9 y0 y1 y2 y3 y4 y5 y6 y7 y8 y9 v0 v1
  have hB := hCv.b
  have hx_ := hB.b2
  have d_0 : w3.cell? ⟨w.heap.size + 1, 0, none⟩ = some (.int .i64 0) := blk_cell hx_ 0
  have df_0 : w3.frozen? ⟨w.heap.size + 1, 0, none⟩ = false := blk_frozen hx_ 0
  have d_1 : w3.cell? ⟨w.heap.size + 1, 1, none⟩ = some (.int .i64 0) := blk_cell hx_ 1
  have df_1 : w3.frozen? ⟨w.heap.size + 1, 1, none⟩ = false := blk_frozen hx_ 1
  go_wp2_with fail
  have k_ := (blk_set (blk_set hx_ 0 (.int .i64 0)) 1 (.int .i64 0))
  have hB_ := (Below.setCell (Below.setCell hB.be (p := ⟨w.heap.size + 1, 0, none⟩) ((by show w.heap.size ≤ w.heap.size + 1; omega)) (.int .i64 0)) (p := ⟨w.heap.size + 1, 1, none⟩) ((by show w.heap.size ≤ w.heap.size + 1; omega)) (.int .i64 0))
  obtain ⟨w_, hw_⟩ : ∃ w_, w_ = (World.setCell (World.setCell w3 ⟨w.heap.size + 1, 0, none⟩ (.int .i64 0)) ⟨w.heap.size + 1, 1, none⟩ (.int .i64 0)) := ⟨_, rfl⟩
  rw [← hw_] at k_ hB_
  try rw [← hw_]
  clear hw_
  have s_0 : w_.cell? ⟨w.heap.size + 1, 0, none⟩ = some (.int .i64 0) := blk_cell k_ 0
  have s_1 : w_.cell? ⟨w.heap.size + 1, 1, none⟩ = some (.int .i64 0) := blk_cell k_ 1
  refine bodyPost_ret (by simp [results, Try.results29, go_sem, s_0, s_1]; try rfl) rfl ?_
  exact ⟨rfl, hB_⟩

set_option maxRecDepth 100000 in
set_option maxHeartbeats 4000000 in
theorem conv_same {vn vd : Int} (h1 : I64 vn) (h2 : I64 vd) (a b : ByteArray) (x y : URow) (ha : find a = some x) (hb : find b = some y) (hl : likeU x y) (hv : Rt vn vd) (hs : a.toList = b.toList) (w : World) :
    Calls Try.prog 29 #[.agg #[.int .i64 vn, .int .i64 vd], .string a, .string b] w fun e w' => e = ans (vn, vd, 0) ∧ Below w.heap.size w w' := by
  have hq := eqU ha hb
  simp only [decide_eq_true hl] at hq
  have ee : (a.toList == b.toList) = true := by simp [hs]
  clear hs
  have hrv := fun w => right_calls h1 h2 w
  simp only [decide_eq_true hv] at hrv
  have HRV := Lib.hid hrv
  clear hrv
  have fa := fun w => find_calls a w
  have fb := fun w => find_calls b w
  simp only [ha, Option.getD_some, Option.isSome_some, URow.val] at fa
  simp only [hb, Option.getD_some, Option.isSome_some, URow.val] at fb
  have FA := Lib.hid fa
  have FB := Lib.hid fb
  clear fa fb
  go_enter Try.func29, Try.ntmps29
  go_wp2_with fail
  refine (FA.out _).mono ?_
  rintro e w1 ⟨rfl, hb1⟩
  have hB := (b2_start w (.cells #[.int .i64 vn, .int .i64 vd] 29) (.cells #[.int .i64 0, .int .i64 0] 29)).step hb1
  clear hb1
  have k1 := blk_new w1 (.cells #[.string x.name, .int .i64 x.d0, .int .i64 x.d1, .int .i64 x.d2, .int .i64 x.d3, .int .i64 x.fn, .int .i64 x.fd, .int .i64 x.on, .int .i64 x.od, .int .i64 x.code] 70)
  have hB2 := hB.step (below_alloc (Below.refl _ _) (.cells #[.string x.name, .int .i64 x.d0, .int .i64 x.d1, .int .i64 x.d2, .int .i64 x.d3, .int .i64 x.fn, .int .i64 x.fd, .int .i64 x.on, .int .i64 x.od, .int .i64 x.code] 70))
  have z1 := hB.size
  clear hB
  go_wp2_with fail
  refine (FB.out _).mono ?_
  rintro e w2 ⟨rfl, hb2⟩
  have hB3 := hB2.step hb2
  have k2 := blk_below k1 hb2
  obtain ⟨p8, hp8⟩ : ∃ p, p = w1.heap.size := ⟨_, rfl⟩
  rw [← hp8] at z1 k2 ⊢
  clear hp8 k1 hb2 hB2
  have hCv : Cv w (w2.alloc (.cells #[.string y.name, .int .i64 y.d0, .int .i64 y.d1, .int .i64 y.d2, .int .i64 y.d3, .int .i64 y.fn, .int .i64 y.fd, .int .i64 y.on, .int .i64 y.od, .int .i64 y.code] 70)) vn vd p8 w2.heap.size x y := ⟨hB3.step (below_alloc (Below.refl _ _) _), blk_alloc k2 _, blk_new w2 _⟩
  have k2k := k2
  clear hB3 k2
  have x0 : (w2.alloc (.cells #[.string y.name, .int .i64 y.d0, .int .i64 y.d1, .int .i64 y.d2, .int .i64 y.d3, .int .i64 y.fn, .int .i64 y.fd, .int .i64 y.on, .int .i64 y.od, .int .i64 y.code] 70)).cell? ⟨p8, 0, none⟩ = some (.string x.name) := blk_cell hCv.k8 0
  have x1 : (w2.alloc (.cells #[.string y.name, .int .i64 y.d0, .int .i64 y.d1, .int .i64 y.d2, .int .i64 y.d3, .int .i64 y.fn, .int .i64 y.fd, .int .i64 y.on, .int .i64 y.od, .int .i64 y.code] 70)).cell? ⟨p8, 1, none⟩ = some (.int .i64 x.d0) := blk_cell hCv.k8 1
  have x2 : (w2.alloc (.cells #[.string y.name, .int .i64 y.d0, .int .i64 y.d1, .int .i64 y.d2, .int .i64 y.d3, .int .i64 y.fn, .int .i64 y.fd, .int .i64 y.on, .int .i64 y.od, .int .i64 y.code] 70)).cell? ⟨p8, 2, none⟩ = some (.int .i64 x.d1) := blk_cell hCv.k8 2
  have x3 : (w2.alloc (.cells #[.string y.name, .int .i64 y.d0, .int .i64 y.d1, .int .i64 y.d2, .int .i64 y.d3, .int .i64 y.fn, .int .i64 y.fd, .int .i64 y.on, .int .i64 y.od, .int .i64 y.code] 70)).cell? ⟨p8, 3, none⟩ = some (.int .i64 x.d2) := blk_cell hCv.k8 3
  have x4 : (w2.alloc (.cells #[.string y.name, .int .i64 y.d0, .int .i64 y.d1, .int .i64 y.d2, .int .i64 y.d3, .int .i64 y.fn, .int .i64 y.fd, .int .i64 y.on, .int .i64 y.od, .int .i64 y.code] 70)).cell? ⟨p8, 4, none⟩ = some (.int .i64 x.d3) := blk_cell hCv.k8 4
  have x5 : (w2.alloc (.cells #[.string y.name, .int .i64 y.d0, .int .i64 y.d1, .int .i64 y.d2, .int .i64 y.d3, .int .i64 y.fn, .int .i64 y.fd, .int .i64 y.on, .int .i64 y.od, .int .i64 y.code] 70)).cell? ⟨p8, 5, none⟩ = some (.int .i64 x.fn) := blk_cell hCv.k8 5
  have x6 : (w2.alloc (.cells #[.string y.name, .int .i64 y.d0, .int .i64 y.d1, .int .i64 y.d2, .int .i64 y.d3, .int .i64 y.fn, .int .i64 y.fd, .int .i64 y.on, .int .i64 y.od, .int .i64 y.code] 70)).cell? ⟨p8, 6, none⟩ = some (.int .i64 x.fd) := blk_cell hCv.k8 6
  have x7 : (w2.alloc (.cells #[.string y.name, .int .i64 y.d0, .int .i64 y.d1, .int .i64 y.d2, .int .i64 y.d3, .int .i64 y.fn, .int .i64 y.fd, .int .i64 y.on, .int .i64 y.od, .int .i64 y.code] 70)).cell? ⟨p8, 7, none⟩ = some (.int .i64 x.on) := blk_cell hCv.k8 7
  have x8 : (w2.alloc (.cells #[.string y.name, .int .i64 y.d0, .int .i64 y.d1, .int .i64 y.d2, .int .i64 y.d3, .int .i64 y.fn, .int .i64 y.fd, .int .i64 y.on, .int .i64 y.od, .int .i64 y.code] 70)).cell? ⟨p8, 8, none⟩ = some (.int .i64 x.od) := blk_cell hCv.k8 8
  have x9 : (w2.alloc (.cells #[.string y.name, .int .i64 y.d0, .int .i64 y.d1, .int .i64 y.d2, .int .i64 y.d3, .int .i64 y.fn, .int .i64 y.fd, .int .i64 y.on, .int .i64 y.od, .int .i64 y.code] 70)).cell? ⟨p8, 9, none⟩ = some (.int .i64 x.code) := blk_cell hCv.k8 9
  have y0 : (w2.alloc (.cells #[.string y.name, .int .i64 y.d0, .int .i64 y.d1, .int .i64 y.d2, .int .i64 y.d3, .int .i64 y.fn, .int .i64 y.fd, .int .i64 y.on, .int .i64 y.od, .int .i64 y.code] 70)).cell? ⟨w2.heap.size, 0, none⟩ = some (.string y.name) := blk_cell hCv.k10 0
  have y1 : (w2.alloc (.cells #[.string y.name, .int .i64 y.d0, .int .i64 y.d1, .int .i64 y.d2, .int .i64 y.d3, .int .i64 y.fn, .int .i64 y.fd, .int .i64 y.on, .int .i64 y.od, .int .i64 y.code] 70)).cell? ⟨w2.heap.size, 1, none⟩ = some (.int .i64 y.d0) := blk_cell hCv.k10 1
  have y2 : (w2.alloc (.cells #[.string y.name, .int .i64 y.d0, .int .i64 y.d1, .int .i64 y.d2, .int .i64 y.d3, .int .i64 y.fn, .int .i64 y.fd, .int .i64 y.on, .int .i64 y.od, .int .i64 y.code] 70)).cell? ⟨w2.heap.size, 2, none⟩ = some (.int .i64 y.d1) := blk_cell hCv.k10 2
  have y3 : (w2.alloc (.cells #[.string y.name, .int .i64 y.d0, .int .i64 y.d1, .int .i64 y.d2, .int .i64 y.d3, .int .i64 y.fn, .int .i64 y.fd, .int .i64 y.on, .int .i64 y.od, .int .i64 y.code] 70)).cell? ⟨w2.heap.size, 3, none⟩ = some (.int .i64 y.d2) := blk_cell hCv.k10 3
  have y4 : (w2.alloc (.cells #[.string y.name, .int .i64 y.d0, .int .i64 y.d1, .int .i64 y.d2, .int .i64 y.d3, .int .i64 y.fn, .int .i64 y.fd, .int .i64 y.on, .int .i64 y.od, .int .i64 y.code] 70)).cell? ⟨w2.heap.size, 4, none⟩ = some (.int .i64 y.d3) := blk_cell hCv.k10 4
  have y5 : (w2.alloc (.cells #[.string y.name, .int .i64 y.d0, .int .i64 y.d1, .int .i64 y.d2, .int .i64 y.d3, .int .i64 y.fn, .int .i64 y.fd, .int .i64 y.on, .int .i64 y.od, .int .i64 y.code] 70)).cell? ⟨w2.heap.size, 5, none⟩ = some (.int .i64 y.fn) := blk_cell hCv.k10 5
  have y6 : (w2.alloc (.cells #[.string y.name, .int .i64 y.d0, .int .i64 y.d1, .int .i64 y.d2, .int .i64 y.d3, .int .i64 y.fn, .int .i64 y.fd, .int .i64 y.on, .int .i64 y.od, .int .i64 y.code] 70)).cell? ⟨w2.heap.size, 6, none⟩ = some (.int .i64 y.fd) := blk_cell hCv.k10 6
  have y7 : (w2.alloc (.cells #[.string y.name, .int .i64 y.d0, .int .i64 y.d1, .int .i64 y.d2, .int .i64 y.d3, .int .i64 y.fn, .int .i64 y.fd, .int .i64 y.on, .int .i64 y.od, .int .i64 y.code] 70)).cell? ⟨w2.heap.size, 7, none⟩ = some (.int .i64 y.on) := blk_cell hCv.k10 7
  have y8 : (w2.alloc (.cells #[.string y.name, .int .i64 y.d0, .int .i64 y.d1, .int .i64 y.d2, .int .i64 y.d3, .int .i64 y.fn, .int .i64 y.fd, .int .i64 y.on, .int .i64 y.od, .int .i64 y.code] 70)).cell? ⟨w2.heap.size, 8, none⟩ = some (.int .i64 y.od) := blk_cell hCv.k10 8
  have y9 : (w2.alloc (.cells #[.string y.name, .int .i64 y.d0, .int .i64 y.d1, .int .i64 y.d2, .int .i64 y.d3, .int .i64 y.fn, .int .i64 y.fd, .int .i64 y.on, .int .i64 y.od, .int .i64 y.code] 70)).cell? ⟨w2.heap.size, 9, none⟩ = some (.int .i64 y.code) := blk_cell hCv.k10 9
  have v0 : (w2.alloc (.cells #[.string y.name, .int .i64 y.d0, .int .i64 y.d1, .int .i64 y.d2, .int .i64 y.d3, .int .i64 y.fn, .int .i64 y.fd, .int .i64 y.on, .int .i64 y.od, .int .i64 y.code] 70)).cell? ⟨w.heap.size, 0, none⟩ = some (.int .i64 vn) := blk_cell hCv.b.b1 0
  have v1 : (w2.alloc (.cells #[.string y.name, .int .i64 y.d0, .int .i64 y.d1, .int .i64 y.d2, .int .i64 y.d3, .int .i64 y.fn, .int .i64 y.fd, .int .i64 y.on, .int .i64 y.od, .int .i64 y.code] 70)).cell? ⟨w.heap.size, 1, none⟩ = some (.int .i64 vd) := blk_cell hCv.b.b1 1
  go_wp2_with fail
  refine (HRV.out _).mono ?_
  rintro e w3 ⟨rfl, hb3⟩
  replace hCv := hCv.step hb3
  obtain ⟨p10, hp10⟩ : ∃ p, p = w2.heap.size := ⟨_, rfl⟩
  have z2 : p8 < w2.heap.size := by
    have := blk_lt k2k
    exact this
  rw [← hp10] at hCv z2 ⊢
  clear hp10 hb3 k2k x0 x1 x2 x3 x4 x5 x6 x7 x8 x9 y0 y1 y2 y3 y4 y5 y6 y7 y8 y9 v0 v1
  have x0 : w3.cell? ⟨p8, 0, none⟩ = some (.string x.name) := blk_cell hCv.k8 0
  have x1 : w3.cell? ⟨p8, 1, none⟩ = some (.int .i64 x.d0) := blk_cell hCv.k8 1
  have x2 : w3.cell? ⟨p8, 2, none⟩ = some (.int .i64 x.d1) := blk_cell hCv.k8 2
  have x3 : w3.cell? ⟨p8, 3, none⟩ = some (.int .i64 x.d2) := blk_cell hCv.k8 3
  have x4 : w3.cell? ⟨p8, 4, none⟩ = some (.int .i64 x.d3) := blk_cell hCv.k8 4
  have x5 : w3.cell? ⟨p8, 5, none⟩ = some (.int .i64 x.fn) := blk_cell hCv.k8 5
  have x6 : w3.cell? ⟨p8, 6, none⟩ = some (.int .i64 x.fd) := blk_cell hCv.k8 6
  have x7 : w3.cell? ⟨p8, 7, none⟩ = some (.int .i64 x.on) := blk_cell hCv.k8 7
  have x8 : w3.cell? ⟨p8, 8, none⟩ = some (.int .i64 x.od) := blk_cell hCv.k8 8
  have x9 : w3.cell? ⟨p8, 9, none⟩ = some (.int .i64 x.code) := blk_cell hCv.k8 9
  have y0 : w3.cell? ⟨p10, 0, none⟩ = some (.string y.name) := blk_cell hCv.k10 0
  have y1 : w3.cell? ⟨p10, 1, none⟩ = some (.int .i64 y.d0) := blk_cell hCv.k10 1
  have y2 : w3.cell? ⟨p10, 2, none⟩ = some (.int .i64 y.d1) := blk_cell hCv.k10 2
  have y3 : w3.cell? ⟨p10, 3, none⟩ = some (.int .i64 y.d2) := blk_cell hCv.k10 3
  have y4 : w3.cell? ⟨p10, 4, none⟩ = some (.int .i64 y.d3) := blk_cell hCv.k10 4
  have y5 : w3.cell? ⟨p10, 5, none⟩ = some (.int .i64 y.fn) := blk_cell hCv.k10 5
  have y6 : w3.cell? ⟨p10, 6, none⟩ = some (.int .i64 y.fd) := blk_cell hCv.k10 6
  have y7 : w3.cell? ⟨p10, 7, none⟩ = some (.int .i64 y.on) := blk_cell hCv.k10 7
  have y8 : w3.cell? ⟨p10, 8, none⟩ = some (.int .i64 y.od) := blk_cell hCv.k10 8
  have y9 : w3.cell? ⟨p10, 9, none⟩ = some (.int .i64 y.code) := blk_cell hCv.k10 9
  have v0 : w3.cell? ⟨w.heap.size, 0, none⟩ = some (.int .i64 vn) := blk_cell hCv.b.b1 0
  have v1 : w3.cell? ⟨w.heap.size, 1, none⟩ = some (.int .i64 vd) := blk_cell hCv.b.b1 1
  have hB := hCv.b
  have hx_ := hB.b2
  have d_0 : w3.cell? ⟨w.heap.size + 1, 0, none⟩ = some (.int .i64 0) := blk_cell hx_ 0
  have df_0 : w3.frozen? ⟨w.heap.size + 1, 0, none⟩ = false := blk_frozen hx_ 0
  have d_1 : w3.cell? ⟨w.heap.size + 1, 1, none⟩ = some (.int .i64 0) := blk_cell hx_ 1
  have df_1 : w3.frozen? ⟨w.heap.size + 1, 1, none⟩ = false := blk_frozen hx_ 1
  go_wp2_with fail
  have k_ := (blk_set (blk_set hx_ 0 (.int .i64 vn)) 1 (.int .i64 vd))
  have hB_ := (Below.setCell (Below.setCell hB.be (p := ⟨w.heap.size + 1, 0, none⟩) ((by show w.heap.size ≤ w.heap.size + 1; omega)) (.int .i64 vn)) (p := ⟨w.heap.size + 1, 1, none⟩) ((by show w.heap.size ≤ w.heap.size + 1; omega)) (.int .i64 vd))
  obtain ⟨w_, hw_⟩ : ∃ w_, w_ = (World.setCell (World.setCell w3 ⟨w.heap.size + 1, 0, none⟩ (.int .i64 vn)) ⟨w.heap.size + 1, 1, none⟩ (.int .i64 vd)) := ⟨_, rfl⟩
  rw [← hw_] at k_ hB_
  try rw [← hw_]
  clear hw_
  have s_0 : w_.cell? ⟨w.heap.size + 1, 0, none⟩ = some (.int .i64 vn) := blk_cell k_ 0
  have s_1 : w_.cell? ⟨w.heap.size + 1, 1, none⟩ = some (.int .i64 vd) := blk_cell k_ 1
  refine bodyPost_ret (by simp [results, Try.results29, go_sem, s_0, s_1]; try rfl) rfl ?_
  exact ⟨rfl, hB_⟩

structure Cw (w wx : World) (vn vd : Int) (p8 p10 p12 p13 : Nat) (x y : URow) : Prop where
  c : Cv w wx vn vd p8 p10 x y
  k12 : wx.heap[p12]? = some (.cells #[.int .i64 (-y.on), .int .i64 y.od] 29 (0, 0))
  k13 : wx.heap[p13]? = some (.cells #[.int .i64 y.fd, .int .i64 y.fn] 29 (0, 0))
theorem Cw.step {w wx w2 : World} {vn vd : Int} {p8 p10 p12 p13 : Nat} {x y : URow} (h : Cw w wx vn vd p8 p10 p12 p13 x y) (hb : Below wx.heap.size wx w2) : Cw w w2 vn vd p8 p10 p12 p13 x y :=
  ⟨h.c.step hb, blk_below h.k12 hb, blk_below h.k13 hb⟩

set_option maxRecDepth 100000 in
set_option maxHeartbeats 4000000 in
theorem conv_steps {vn vd : Int} (h1 : I64 vn) (h2 : I64 vd) (a b : ByteArray) (x y : URow) (ha : find a = some x) (hb : find b = some y) (hl : likeU x y) (hv : Rt vn vd) (hs : a.toList ≠ b.toList) (w : World) :
    Calls Try.prog 29 #[.agg #[.int .i64 vn, .int .i64 vd], .string a, .string b] w fun e w' => e = ans (stepsU x y (vn, vd, 0)) ∧ Below w.heap.size w w' := by
  have hq := eqU ha hb
  simp only [decide_eq_true hl] at hq
  have ee : (a.toList == b.toList) = false := by simp [hs]
  have gx := find_good ha
  have gy := find_good hb
  obtain ⟨gx1, gx2, gx3, gx4, _⟩ := gx
  obtain ⟨gy1, gy2, gy3, gy4, gy5, _⟩ := gy
  have eno : IntKind.i64.wrap (-y.on) = -y.on := by rw [i64_w]; exact wrap_in gy5
  obtain ⟨⟨r1, r2, r3⟩, hres⟩ : ∃ r, stepsU x y (vn, vd, 0) = r := ⟨_, rfl⟩
  rw [hres]
  have HRES := Lib.hid hres
  clear hs hres
  have hrv := fun w => right_calls h1 h2 w
  simp only [decide_eq_true hv] at hrv
  have HRV := Lib.hid hrv
  clear hrv
  have fa := fun w => find_calls a w
  have fb := fun w => find_calls b w
  simp only [ha, Option.getD_some, Option.isSome_some, URow.val] at fa
  simp only [hb, Option.getD_some, Option.isSome_some, URow.val] at fb
  have FA := Lib.hid fa
  have FB := Lib.hid fb
  clear fa fb
  go_enter Try.func29, Try.ntmps29
  go_wp2_with fail
  refine (FA.out _).mono ?_
  rintro e w1 ⟨rfl, hb1⟩
  have hB := (b2_start w (.cells #[.int .i64 vn, .int .i64 vd] 29) (.cells #[.int .i64 0, .int .i64 0] 29)).step hb1
  clear hb1
  have k1 := blk_new w1 (.cells #[.string x.name, .int .i64 x.d0, .int .i64 x.d1, .int .i64 x.d2, .int .i64 x.d3, .int .i64 x.fn, .int .i64 x.fd, .int .i64 x.on, .int .i64 x.od, .int .i64 x.code] 70)
  have hB2 := hB.step (below_alloc (Below.refl _ _) (.cells #[.string x.name, .int .i64 x.d0, .int .i64 x.d1, .int .i64 x.d2, .int .i64 x.d3, .int .i64 x.fn, .int .i64 x.fd, .int .i64 x.on, .int .i64 x.od, .int .i64 x.code] 70))
  have z1 := hB.size
  clear hB
  go_wp2_with fail
  refine (FB.out _).mono ?_
  rintro e w2 ⟨rfl, hb2⟩
  have hB3 := hB2.step hb2
  have k2 := blk_below k1 hb2
  obtain ⟨p8, hp8⟩ : ∃ p, p = w1.heap.size := ⟨_, rfl⟩
  rw [← hp8] at z1 k2 ⊢
  clear hp8 k1 hb2 hB2
  have hCv : Cv w (w2.alloc (.cells #[.string y.name, .int .i64 y.d0, .int .i64 y.d1, .int .i64 y.d2, .int .i64 y.d3, .int .i64 y.fn, .int .i64 y.fd, .int .i64 y.on, .int .i64 y.od, .int .i64 y.code] 70)) vn vd p8 w2.heap.size x y := ⟨hB3.step (below_alloc (Below.refl _ _) _), blk_alloc k2 _, blk_new w2 _⟩
  have k2k := k2
  clear hB3 k2
  have x0 : (w2.alloc (.cells #[.string y.name, .int .i64 y.d0, .int .i64 y.d1, .int .i64 y.d2, .int .i64 y.d3, .int .i64 y.fn, .int .i64 y.fd, .int .i64 y.on, .int .i64 y.od, .int .i64 y.code] 70)).cell? ⟨p8, 0, none⟩ = some (.string x.name) := blk_cell hCv.k8 0
  have x1 : (w2.alloc (.cells #[.string y.name, .int .i64 y.d0, .int .i64 y.d1, .int .i64 y.d2, .int .i64 y.d3, .int .i64 y.fn, .int .i64 y.fd, .int .i64 y.on, .int .i64 y.od, .int .i64 y.code] 70)).cell? ⟨p8, 1, none⟩ = some (.int .i64 x.d0) := blk_cell hCv.k8 1
  have x2 : (w2.alloc (.cells #[.string y.name, .int .i64 y.d0, .int .i64 y.d1, .int .i64 y.d2, .int .i64 y.d3, .int .i64 y.fn, .int .i64 y.fd, .int .i64 y.on, .int .i64 y.od, .int .i64 y.code] 70)).cell? ⟨p8, 2, none⟩ = some (.int .i64 x.d1) := blk_cell hCv.k8 2
  have x3 : (w2.alloc (.cells #[.string y.name, .int .i64 y.d0, .int .i64 y.d1, .int .i64 y.d2, .int .i64 y.d3, .int .i64 y.fn, .int .i64 y.fd, .int .i64 y.on, .int .i64 y.od, .int .i64 y.code] 70)).cell? ⟨p8, 3, none⟩ = some (.int .i64 x.d2) := blk_cell hCv.k8 3
  have x4 : (w2.alloc (.cells #[.string y.name, .int .i64 y.d0, .int .i64 y.d1, .int .i64 y.d2, .int .i64 y.d3, .int .i64 y.fn, .int .i64 y.fd, .int .i64 y.on, .int .i64 y.od, .int .i64 y.code] 70)).cell? ⟨p8, 4, none⟩ = some (.int .i64 x.d3) := blk_cell hCv.k8 4
  have x5 : (w2.alloc (.cells #[.string y.name, .int .i64 y.d0, .int .i64 y.d1, .int .i64 y.d2, .int .i64 y.d3, .int .i64 y.fn, .int .i64 y.fd, .int .i64 y.on, .int .i64 y.od, .int .i64 y.code] 70)).cell? ⟨p8, 5, none⟩ = some (.int .i64 x.fn) := blk_cell hCv.k8 5
  have x6 : (w2.alloc (.cells #[.string y.name, .int .i64 y.d0, .int .i64 y.d1, .int .i64 y.d2, .int .i64 y.d3, .int .i64 y.fn, .int .i64 y.fd, .int .i64 y.on, .int .i64 y.od, .int .i64 y.code] 70)).cell? ⟨p8, 6, none⟩ = some (.int .i64 x.fd) := blk_cell hCv.k8 6
  have x7 : (w2.alloc (.cells #[.string y.name, .int .i64 y.d0, .int .i64 y.d1, .int .i64 y.d2, .int .i64 y.d3, .int .i64 y.fn, .int .i64 y.fd, .int .i64 y.on, .int .i64 y.od, .int .i64 y.code] 70)).cell? ⟨p8, 7, none⟩ = some (.int .i64 x.on) := blk_cell hCv.k8 7
  have x8 : (w2.alloc (.cells #[.string y.name, .int .i64 y.d0, .int .i64 y.d1, .int .i64 y.d2, .int .i64 y.d3, .int .i64 y.fn, .int .i64 y.fd, .int .i64 y.on, .int .i64 y.od, .int .i64 y.code] 70)).cell? ⟨p8, 8, none⟩ = some (.int .i64 x.od) := blk_cell hCv.k8 8
  have x9 : (w2.alloc (.cells #[.string y.name, .int .i64 y.d0, .int .i64 y.d1, .int .i64 y.d2, .int .i64 y.d3, .int .i64 y.fn, .int .i64 y.fd, .int .i64 y.on, .int .i64 y.od, .int .i64 y.code] 70)).cell? ⟨p8, 9, none⟩ = some (.int .i64 x.code) := blk_cell hCv.k8 9
  have y0 : (w2.alloc (.cells #[.string y.name, .int .i64 y.d0, .int .i64 y.d1, .int .i64 y.d2, .int .i64 y.d3, .int .i64 y.fn, .int .i64 y.fd, .int .i64 y.on, .int .i64 y.od, .int .i64 y.code] 70)).cell? ⟨w2.heap.size, 0, none⟩ = some (.string y.name) := blk_cell hCv.k10 0
  have y1 : (w2.alloc (.cells #[.string y.name, .int .i64 y.d0, .int .i64 y.d1, .int .i64 y.d2, .int .i64 y.d3, .int .i64 y.fn, .int .i64 y.fd, .int .i64 y.on, .int .i64 y.od, .int .i64 y.code] 70)).cell? ⟨w2.heap.size, 1, none⟩ = some (.int .i64 y.d0) := blk_cell hCv.k10 1
  have y2 : (w2.alloc (.cells #[.string y.name, .int .i64 y.d0, .int .i64 y.d1, .int .i64 y.d2, .int .i64 y.d3, .int .i64 y.fn, .int .i64 y.fd, .int .i64 y.on, .int .i64 y.od, .int .i64 y.code] 70)).cell? ⟨w2.heap.size, 2, none⟩ = some (.int .i64 y.d1) := blk_cell hCv.k10 2
  have y3 : (w2.alloc (.cells #[.string y.name, .int .i64 y.d0, .int .i64 y.d1, .int .i64 y.d2, .int .i64 y.d3, .int .i64 y.fn, .int .i64 y.fd, .int .i64 y.on, .int .i64 y.od, .int .i64 y.code] 70)).cell? ⟨w2.heap.size, 3, none⟩ = some (.int .i64 y.d2) := blk_cell hCv.k10 3
  have y4 : (w2.alloc (.cells #[.string y.name, .int .i64 y.d0, .int .i64 y.d1, .int .i64 y.d2, .int .i64 y.d3, .int .i64 y.fn, .int .i64 y.fd, .int .i64 y.on, .int .i64 y.od, .int .i64 y.code] 70)).cell? ⟨w2.heap.size, 4, none⟩ = some (.int .i64 y.d3) := blk_cell hCv.k10 4
  have y5 : (w2.alloc (.cells #[.string y.name, .int .i64 y.d0, .int .i64 y.d1, .int .i64 y.d2, .int .i64 y.d3, .int .i64 y.fn, .int .i64 y.fd, .int .i64 y.on, .int .i64 y.od, .int .i64 y.code] 70)).cell? ⟨w2.heap.size, 5, none⟩ = some (.int .i64 y.fn) := blk_cell hCv.k10 5
  have y6 : (w2.alloc (.cells #[.string y.name, .int .i64 y.d0, .int .i64 y.d1, .int .i64 y.d2, .int .i64 y.d3, .int .i64 y.fn, .int .i64 y.fd, .int .i64 y.on, .int .i64 y.od, .int .i64 y.code] 70)).cell? ⟨w2.heap.size, 6, none⟩ = some (.int .i64 y.fd) := blk_cell hCv.k10 6
  have y7 : (w2.alloc (.cells #[.string y.name, .int .i64 y.d0, .int .i64 y.d1, .int .i64 y.d2, .int .i64 y.d3, .int .i64 y.fn, .int .i64 y.fd, .int .i64 y.on, .int .i64 y.od, .int .i64 y.code] 70)).cell? ⟨w2.heap.size, 7, none⟩ = some (.int .i64 y.on) := blk_cell hCv.k10 7
  have y8 : (w2.alloc (.cells #[.string y.name, .int .i64 y.d0, .int .i64 y.d1, .int .i64 y.d2, .int .i64 y.d3, .int .i64 y.fn, .int .i64 y.fd, .int .i64 y.on, .int .i64 y.od, .int .i64 y.code] 70)).cell? ⟨w2.heap.size, 8, none⟩ = some (.int .i64 y.od) := blk_cell hCv.k10 8
  have y9 : (w2.alloc (.cells #[.string y.name, .int .i64 y.d0, .int .i64 y.d1, .int .i64 y.d2, .int .i64 y.d3, .int .i64 y.fn, .int .i64 y.fd, .int .i64 y.on, .int .i64 y.od, .int .i64 y.code] 70)).cell? ⟨w2.heap.size, 9, none⟩ = some (.int .i64 y.code) := blk_cell hCv.k10 9
  have v0 : (w2.alloc (.cells #[.string y.name, .int .i64 y.d0, .int .i64 y.d1, .int .i64 y.d2, .int .i64 y.d3, .int .i64 y.fn, .int .i64 y.fd, .int .i64 y.on, .int .i64 y.od, .int .i64 y.code] 70)).cell? ⟨w.heap.size, 0, none⟩ = some (.int .i64 vn) := blk_cell hCv.b.b1 0
  have v1 : (w2.alloc (.cells #[.string y.name, .int .i64 y.d0, .int .i64 y.d1, .int .i64 y.d2, .int .i64 y.d3, .int .i64 y.fn, .int .i64 y.fd, .int .i64 y.on, .int .i64 y.od, .int .i64 y.code] 70)).cell? ⟨w.heap.size, 1, none⟩ = some (.int .i64 vd) := blk_cell hCv.b.b1 1
  go_wp2_with fail
  refine (HRV.out _).mono ?_
  rintro e w3 ⟨rfl, hb3⟩
  replace hCv := hCv.step hb3
  obtain ⟨p10, hp10⟩ : ∃ p, p = w2.heap.size := ⟨_, rfl⟩
  have z2 : p8 < w2.heap.size := by
    have := blk_lt k2k
    exact this
  rw [← hp10] at hCv z2 ⊢
  clear hp10 hb3 k2k x0 x1 x2 x3 x4 x5 x6 x7 x8 x9 y0 y1 y2 y3 y4 y5 y6 y7 y8 y9 v0 v1
  have x0 : w3.cell? ⟨p8, 0, none⟩ = some (.string x.name) := blk_cell hCv.k8 0
  have x1 : w3.cell? ⟨p8, 1, none⟩ = some (.int .i64 x.d0) := blk_cell hCv.k8 1
  have x2 : w3.cell? ⟨p8, 2, none⟩ = some (.int .i64 x.d1) := blk_cell hCv.k8 2
  have x3 : w3.cell? ⟨p8, 3, none⟩ = some (.int .i64 x.d2) := blk_cell hCv.k8 3
  have x4 : w3.cell? ⟨p8, 4, none⟩ = some (.int .i64 x.d3) := blk_cell hCv.k8 4
  have x5 : w3.cell? ⟨p8, 5, none⟩ = some (.int .i64 x.fn) := blk_cell hCv.k8 5
  have x6 : w3.cell? ⟨p8, 6, none⟩ = some (.int .i64 x.fd) := blk_cell hCv.k8 6
  have x7 : w3.cell? ⟨p8, 7, none⟩ = some (.int .i64 x.on) := blk_cell hCv.k8 7
  have x8 : w3.cell? ⟨p8, 8, none⟩ = some (.int .i64 x.od) := blk_cell hCv.k8 8
  have x9 : w3.cell? ⟨p8, 9, none⟩ = some (.int .i64 x.code) := blk_cell hCv.k8 9
  have y0 : w3.cell? ⟨p10, 0, none⟩ = some (.string y.name) := blk_cell hCv.k10 0
  have y1 : w3.cell? ⟨p10, 1, none⟩ = some (.int .i64 y.d0) := blk_cell hCv.k10 1
  have y2 : w3.cell? ⟨p10, 2, none⟩ = some (.int .i64 y.d1) := blk_cell hCv.k10 2
  have y3 : w3.cell? ⟨p10, 3, none⟩ = some (.int .i64 y.d2) := blk_cell hCv.k10 3
  have y4 : w3.cell? ⟨p10, 4, none⟩ = some (.int .i64 y.d3) := blk_cell hCv.k10 4
  have y5 : w3.cell? ⟨p10, 5, none⟩ = some (.int .i64 y.fn) := blk_cell hCv.k10 5
  have y6 : w3.cell? ⟨p10, 6, none⟩ = some (.int .i64 y.fd) := blk_cell hCv.k10 6
  have y7 : w3.cell? ⟨p10, 7, none⟩ = some (.int .i64 y.on) := blk_cell hCv.k10 7
  have y8 : w3.cell? ⟨p10, 8, none⟩ = some (.int .i64 y.od) := blk_cell hCv.k10 8
  have y9 : w3.cell? ⟨p10, 9, none⟩ = some (.int .i64 y.code) := blk_cell hCv.k10 9
  have v0 : w3.cell? ⟨w.heap.size, 0, none⟩ = some (.int .i64 vn) := blk_cell hCv.b.b1 0
  have v1 : w3.cell? ⟨w.heap.size, 1, none⟩ = some (.int .i64 vd) := blk_cell hCv.b.b1 1
  have k12 := blk_new w3 (.cells #[.int .i64 (-y.on), .int .i64 y.od] 29)
  have hCv2 := hCv.step (below_alloc (Below.refl _ _) (.cells #[.int .i64 (-y.on), .int .i64 y.od] 29))
  have z0 : (w3.alloc (.cells #[.int .i64 (-y.on), .int .i64 y.od] 29)).cell? ⟨p10, 0, none⟩ = some (.string y.name) := blk_cell hCv2.k10 0
  have z1 : (w3.alloc (.cells #[.int .i64 (-y.on), .int .i64 y.od] 29)).cell? ⟨p10, 1, none⟩ = some (.int .i64 y.d0) := blk_cell hCv2.k10 1
  have z2 : (w3.alloc (.cells #[.int .i64 (-y.on), .int .i64 y.od] 29)).cell? ⟨p10, 2, none⟩ = some (.int .i64 y.d1) := blk_cell hCv2.k10 2
  have z3 : (w3.alloc (.cells #[.int .i64 (-y.on), .int .i64 y.od] 29)).cell? ⟨p10, 3, none⟩ = some (.int .i64 y.d2) := blk_cell hCv2.k10 3
  have z4 : (w3.alloc (.cells #[.int .i64 (-y.on), .int .i64 y.od] 29)).cell? ⟨p10, 4, none⟩ = some (.int .i64 y.d3) := blk_cell hCv2.k10 4
  have z5 : (w3.alloc (.cells #[.int .i64 (-y.on), .int .i64 y.od] 29)).cell? ⟨p10, 5, none⟩ = some (.int .i64 y.fn) := blk_cell hCv2.k10 5
  have z6 : (w3.alloc (.cells #[.int .i64 (-y.on), .int .i64 y.od] 29)).cell? ⟨p10, 6, none⟩ = some (.int .i64 y.fd) := blk_cell hCv2.k10 6
  have z7 : (w3.alloc (.cells #[.int .i64 (-y.on), .int .i64 y.od] 29)).cell? ⟨p10, 7, none⟩ = some (.int .i64 y.on) := blk_cell hCv2.k10 7
  have z8 : (w3.alloc (.cells #[.int .i64 (-y.on), .int .i64 y.od] 29)).cell? ⟨p10, 8, none⟩ = some (.int .i64 y.od) := blk_cell hCv2.k10 8
  have z9 : (w3.alloc (.cells #[.int .i64 (-y.on), .int .i64 y.od] 29)).cell? ⟨p10, 9, none⟩ = some (.int .i64 y.code) := blk_cell hCv2.k10 9
  go_wp2_with fail
  obtain ⟨p12, hp12⟩ : ∃ p, p = w3.heap.size := ⟨_, rfl⟩
  obtain ⟨w4, hw4⟩ : ∃ w4, w4 = w3.alloc (.cells #[.int .i64 (-y.on), .int .i64 y.od] 29) := ⟨_, rfl⟩
  rw [← hw4] at hCv2 k12 ⊢
  have hz4 : w4.heap.size = w3.heap.size + 1 := by rw [hw4]; simp
  rw [← hz4]
  rw [← hp12] at k12 ⊢
  have k13 := blk_new w4 (.cells #[.int .i64 y.fd, .int .i64 y.fn] 29)
  have hCw : Cw w (w4.alloc (.cells #[.int .i64 y.fd, .int .i64 y.fn] 29)) vn vd p8 p10 p12 w4.heap.size x y := ⟨hCv2.step (below_alloc (Below.refl _ _) _), blk_alloc k12 _, k13⟩
  obtain ⟨p13, hp13⟩ : ∃ p, p = w4.heap.size := ⟨_, rfl⟩
  obtain ⟨w5, hw5⟩ : ∃ w5, w5 = w4.alloc (.cells #[.int .i64 y.fd, .int .i64 y.fn] 29) := ⟨_, rfl⟩
  rw [← hp13, ← hw5] at hCw
  rw [← hp13, ← hw5]
  clear hCv hCv2 k12 k13 hw4 hw5 hp12 hp13 hz4 z0 z1 z2 z3 z4 z5 z6 z7 z8 z9 
  refine start_ (n := 17) (S := fun wx => Cw w wx vn vd p8 p10 p12 p13 x y) (ds := [15]) #[false, false, false, false, false, false, false, false, false, false, false, false, false, false, false, false, false] (by kernel_rfl) rfl rfl (hCw.step (below_drew (Below.refl _ _))) (fun hHeld => ?_)
  refine take_ (i := 0) (N := some 64) (v := ?_) (a' := ?_) #[true, false, false, false, false, false, false, false, false, false, false, false, false, false, false, false, false] rfl rfl (by kernel_rfl) (fun _ _ _ h => h) (Or.inl ⟨by rfl, ?_⟩) hHeld ?_ ?_
  rotate_left
  · rintro w' hh
    have x0 : w'.cell? ⟨p8, 0, none⟩ = some (.string x.name) := blk_cell hh.c.k8 0
    have x1 : w'.cell? ⟨p8, 1, none⟩ = some (.int .i64 x.d0) := blk_cell hh.c.k8 1
    have x2 : w'.cell? ⟨p8, 2, none⟩ = some (.int .i64 x.d1) := blk_cell hh.c.k8 2
    have x3 : w'.cell? ⟨p8, 3, none⟩ = some (.int .i64 x.d2) := blk_cell hh.c.k8 3
    have x4 : w'.cell? ⟨p8, 4, none⟩ = some (.int .i64 x.d3) := blk_cell hh.c.k8 4
    have x5 : w'.cell? ⟨p8, 5, none⟩ = some (.int .i64 x.fn) := blk_cell hh.c.k8 5
    have x6 : w'.cell? ⟨p8, 6, none⟩ = some (.int .i64 x.fd) := blk_cell hh.c.k8 6
    have x7 : w'.cell? ⟨p8, 7, none⟩ = some (.int .i64 x.on) := blk_cell hh.c.k8 7
    have x8 : w'.cell? ⟨p8, 8, none⟩ = some (.int .i64 x.od) := blk_cell hh.c.k8 8
    have x9 : w'.cell? ⟨p8, 9, none⟩ = some (.int .i64 x.code) := blk_cell hh.c.k8 9
    have v0 : w'.cell? ⟨w.heap.size, 0, none⟩ = some (.int .i64 vn) := blk_cell hh.c.b.b1 0
    have v1 : w'.cell? ⟨w.heap.size, 1, none⟩ = some (.int .i64 vd) := blk_cell hh.c.b.b1 1
    have l0 : w'.cell? ⟨p12, 0, none⟩ = some (.int .i64 (-y.on)) := blk_cell hh.k12 0
    have l1 : w'.cell? ⟨p12, 1, none⟩ = some (.int .i64 y.od) := blk_cell hh.k12 1
    have o0 : w'.cell? ⟨p13, 0, none⟩ = some (.int .i64 y.fd) := blk_cell hh.k13 0
    have o1 : w'.cell? ⟨p13, 1, none⟩ = some (.int .i64 y.fn) := blk_cell hh.k13 1
    go_simp
    with_reducible rfl
  rotate_left
  · simp only [Act.put, List.setIfInBounds_toArray, List.set_cons_zero, List.set_cons_succ, i64_w, i32_w]
    rfl
  refine pure_ (i := 1) (N := some 65) (v := ?_) (a' := ?_) #[true, true, false, false, false, false, false, false, false, false, false, false, false, false, false, false, false] rfl rfl (by kernel_rfl) (fun _ _ _ h => h) (Or.inl ⟨by rfl, ?_⟩) ?_ ?_
  rotate_left
  · intro w'
    go_simp
    try with_reducible rfl
  rotate_left
  · simp only [Act.put, List.setIfInBounds_toArray, List.set_cons_zero, List.set_cons_succ, i64_w, i32_w]
    rfl
  refine take_ (i := 2) (N := some 66) (v := ?_) (a' := ?_) #[true, true, true, false, false, false, false, false, false, false, false, false, false, false, false, false, false] rfl rfl (by kernel_rfl) (fun _ _ _ h => h) (Or.inl ⟨by rfl, ?_⟩) hHeld ?_ ?_
  rotate_left
  · rintro w' hh
    have x0 : w'.cell? ⟨p8, 0, none⟩ = some (.string x.name) := blk_cell hh.c.k8 0
    have x1 : w'.cell? ⟨p8, 1, none⟩ = some (.int .i64 x.d0) := blk_cell hh.c.k8 1
    have x2 : w'.cell? ⟨p8, 2, none⟩ = some (.int .i64 x.d1) := blk_cell hh.c.k8 2
    have x3 : w'.cell? ⟨p8, 3, none⟩ = some (.int .i64 x.d2) := blk_cell hh.c.k8 3
    have x4 : w'.cell? ⟨p8, 4, none⟩ = some (.int .i64 x.d3) := blk_cell hh.c.k8 4
    have x5 : w'.cell? ⟨p8, 5, none⟩ = some (.int .i64 x.fn) := blk_cell hh.c.k8 5
    have x6 : w'.cell? ⟨p8, 6, none⟩ = some (.int .i64 x.fd) := blk_cell hh.c.k8 6
    have x7 : w'.cell? ⟨p8, 7, none⟩ = some (.int .i64 x.on) := blk_cell hh.c.k8 7
    have x8 : w'.cell? ⟨p8, 8, none⟩ = some (.int .i64 x.od) := blk_cell hh.c.k8 8
    have x9 : w'.cell? ⟨p8, 9, none⟩ = some (.int .i64 x.code) := blk_cell hh.c.k8 9
    have v0 : w'.cell? ⟨w.heap.size, 0, none⟩ = some (.int .i64 vn) := blk_cell hh.c.b.b1 0
    have v1 : w'.cell? ⟨w.heap.size, 1, none⟩ = some (.int .i64 vd) := blk_cell hh.c.b.b1 1
    have l0 : w'.cell? ⟨p12, 0, none⟩ = some (.int .i64 (-y.on)) := blk_cell hh.k12 0
    have l1 : w'.cell? ⟨p12, 1, none⟩ = some (.int .i64 y.od) := blk_cell hh.k12 1
    have o0 : w'.cell? ⟨p13, 0, none⟩ = some (.int .i64 y.fd) := blk_cell hh.k13 0
    have o1 : w'.cell? ⟨p13, 1, none⟩ = some (.int .i64 y.fn) := blk_cell hh.k13 1
    go_simp
    with_reducible rfl
  rotate_left
  · simp only [Act.put, List.setIfInBounds_toArray, List.set_cons_zero, List.set_cons_succ, i64_w, i32_w]
    rfl
  refine pure_ (i := 4) (N := some 68) (v := ?_) (a' := ?_) #[true, true, true, false, true, false, false, false, false, false, false, false, false, false, false, false, false] rfl rfl (by kernel_rfl) (fun _ _ _ h => h) (Or.inl ⟨by rfl, ?_⟩) ?_ ?_
  rotate_left
  · intro w'
    go_simp
    try with_reducible rfl
  rotate_left
  · simp only [Act.put, List.setIfInBounds_toArray, List.set_cons_zero, List.set_cons_succ, i64_w, i32_w]
    rfl
  refine take_ (i := 5) (N := some 69) (v := ?_) (a' := ?_) #[true, true, true, false, true, true, false, false, false, false, false, false, false, false, false, false, false] rfl rfl (by kernel_rfl) (fun _ _ _ h => h) (Or.inl ⟨by rfl, ?_⟩) hHeld ?_ ?_
  rotate_left
  · rintro w' hh
    have x0 : w'.cell? ⟨p8, 0, none⟩ = some (.string x.name) := blk_cell hh.c.k8 0
    have x1 : w'.cell? ⟨p8, 1, none⟩ = some (.int .i64 x.d0) := blk_cell hh.c.k8 1
    have x2 : w'.cell? ⟨p8, 2, none⟩ = some (.int .i64 x.d1) := blk_cell hh.c.k8 2
    have x3 : w'.cell? ⟨p8, 3, none⟩ = some (.int .i64 x.d2) := blk_cell hh.c.k8 3
    have x4 : w'.cell? ⟨p8, 4, none⟩ = some (.int .i64 x.d3) := blk_cell hh.c.k8 4
    have x5 : w'.cell? ⟨p8, 5, none⟩ = some (.int .i64 x.fn) := blk_cell hh.c.k8 5
    have x6 : w'.cell? ⟨p8, 6, none⟩ = some (.int .i64 x.fd) := blk_cell hh.c.k8 6
    have x7 : w'.cell? ⟨p8, 7, none⟩ = some (.int .i64 x.on) := blk_cell hh.c.k8 7
    have x8 : w'.cell? ⟨p8, 8, none⟩ = some (.int .i64 x.od) := blk_cell hh.c.k8 8
    have x9 : w'.cell? ⟨p8, 9, none⟩ = some (.int .i64 x.code) := blk_cell hh.c.k8 9
    have v0 : w'.cell? ⟨w.heap.size, 0, none⟩ = some (.int .i64 vn) := blk_cell hh.c.b.b1 0
    have v1 : w'.cell? ⟨w.heap.size, 1, none⟩ = some (.int .i64 vd) := blk_cell hh.c.b.b1 1
    have l0 : w'.cell? ⟨p12, 0, none⟩ = some (.int .i64 (-y.on)) := blk_cell hh.k12 0
    have l1 : w'.cell? ⟨p12, 1, none⟩ = some (.int .i64 y.od) := blk_cell hh.k12 1
    have o0 : w'.cell? ⟨p13, 0, none⟩ = some (.int .i64 y.fd) := blk_cell hh.k13 0
    have o1 : w'.cell? ⟨p13, 1, none⟩ = some (.int .i64 y.fn) := blk_cell hh.k13 1
    go_simp
    with_reducible rfl
  rotate_left
  · simp only [Act.put, List.setIfInBounds_toArray, List.set_cons_zero, List.set_cons_succ, i64_w, i32_w]
    rfl
  refine take_ (i := 7) (N := some 71) (v := ?_) (a' := ?_) #[true, true, true, false, true, true, false, true, false, false, false, false, false, false, false, false, false] rfl rfl (by kernel_rfl) (fun _ _ _ h => h) (Or.inl ⟨by rfl, ?_⟩) hHeld ?_ ?_
  rotate_left
  · rintro w' hh
    have x0 : w'.cell? ⟨p8, 0, none⟩ = some (.string x.name) := blk_cell hh.c.k8 0
    have x1 : w'.cell? ⟨p8, 1, none⟩ = some (.int .i64 x.d0) := blk_cell hh.c.k8 1
    have x2 : w'.cell? ⟨p8, 2, none⟩ = some (.int .i64 x.d1) := blk_cell hh.c.k8 2
    have x3 : w'.cell? ⟨p8, 3, none⟩ = some (.int .i64 x.d2) := blk_cell hh.c.k8 3
    have x4 : w'.cell? ⟨p8, 4, none⟩ = some (.int .i64 x.d3) := blk_cell hh.c.k8 4
    have x5 : w'.cell? ⟨p8, 5, none⟩ = some (.int .i64 x.fn) := blk_cell hh.c.k8 5
    have x6 : w'.cell? ⟨p8, 6, none⟩ = some (.int .i64 x.fd) := blk_cell hh.c.k8 6
    have x7 : w'.cell? ⟨p8, 7, none⟩ = some (.int .i64 x.on) := blk_cell hh.c.k8 7
    have x8 : w'.cell? ⟨p8, 8, none⟩ = some (.int .i64 x.od) := blk_cell hh.c.k8 8
    have x9 : w'.cell? ⟨p8, 9, none⟩ = some (.int .i64 x.code) := blk_cell hh.c.k8 9
    have v0 : w'.cell? ⟨w.heap.size, 0, none⟩ = some (.int .i64 vn) := blk_cell hh.c.b.b1 0
    have v1 : w'.cell? ⟨w.heap.size, 1, none⟩ = some (.int .i64 vd) := blk_cell hh.c.b.b1 1
    have l0 : w'.cell? ⟨p12, 0, none⟩ = some (.int .i64 (-y.on)) := blk_cell hh.k12 0
    have l1 : w'.cell? ⟨p12, 1, none⟩ = some (.int .i64 y.od) := blk_cell hh.k12 1
    have o0 : w'.cell? ⟨p13, 0, none⟩ = some (.int .i64 y.fd) := blk_cell hh.k13 0
    have o1 : w'.cell? ⟨p13, 1, none⟩ = some (.int .i64 y.fn) := blk_cell hh.k13 1
    go_simp
    with_reducible rfl
  rotate_left
  · simp only [Act.put, List.setIfInBounds_toArray, List.set_cons_zero, List.set_cons_succ, i64_w, i32_w]
    rfl
  refine take_ (i := 9) (N := some 73) (v := ?_) (a' := ?_) #[true, true, true, false, true, true, false, true, false, true, false, false, false, false, false, false, false] rfl rfl (by kernel_rfl) (fun _ _ _ h => h) (Or.inl ⟨by rfl, ?_⟩) hHeld ?_ ?_
  rotate_left
  · rintro w' hh
    have x0 : w'.cell? ⟨p8, 0, none⟩ = some (.string x.name) := blk_cell hh.c.k8 0
    have x1 : w'.cell? ⟨p8, 1, none⟩ = some (.int .i64 x.d0) := blk_cell hh.c.k8 1
    have x2 : w'.cell? ⟨p8, 2, none⟩ = some (.int .i64 x.d1) := blk_cell hh.c.k8 2
    have x3 : w'.cell? ⟨p8, 3, none⟩ = some (.int .i64 x.d2) := blk_cell hh.c.k8 3
    have x4 : w'.cell? ⟨p8, 4, none⟩ = some (.int .i64 x.d3) := blk_cell hh.c.k8 4
    have x5 : w'.cell? ⟨p8, 5, none⟩ = some (.int .i64 x.fn) := blk_cell hh.c.k8 5
    have x6 : w'.cell? ⟨p8, 6, none⟩ = some (.int .i64 x.fd) := blk_cell hh.c.k8 6
    have x7 : w'.cell? ⟨p8, 7, none⟩ = some (.int .i64 x.on) := blk_cell hh.c.k8 7
    have x8 : w'.cell? ⟨p8, 8, none⟩ = some (.int .i64 x.od) := blk_cell hh.c.k8 8
    have x9 : w'.cell? ⟨p8, 9, none⟩ = some (.int .i64 x.code) := blk_cell hh.c.k8 9
    have v0 : w'.cell? ⟨w.heap.size, 0, none⟩ = some (.int .i64 vn) := blk_cell hh.c.b.b1 0
    have v1 : w'.cell? ⟨w.heap.size, 1, none⟩ = some (.int .i64 vd) := blk_cell hh.c.b.b1 1
    have l0 : w'.cell? ⟨p12, 0, none⟩ = some (.int .i64 (-y.on)) := blk_cell hh.k12 0
    have l1 : w'.cell? ⟨p12, 1, none⟩ = some (.int .i64 y.od) := blk_cell hh.k12 1
    have o0 : w'.cell? ⟨p13, 0, none⟩ = some (.int .i64 y.fd) := blk_cell hh.k13 0
    have o1 : w'.cell? ⟨p13, 1, none⟩ = some (.int .i64 y.fn) := blk_cell hh.k13 1
    go_simp
    with_reducible rfl
  rotate_left
  · simp only [Act.put, List.setIfInBounds_toArray, List.set_cons_zero, List.set_cons_succ, i64_w, i32_w]
    rfl
  refine one_ (i := 3) (N := some 67) #[true, true, true, true, true, true, false, true, false, true, false, false, false, false, false, false, false] rfl rfl (by kernel_rfl) (by decide) (fun K hK => ?_)
  refine goes_ Try.func64 (by kernel_rfl) rfl #[.agg #[.int .i64 x.fn, .int .i64 x.fd]] (by rfl) rfl rfl (by (try simp only [List.map_toArray, List.map_cons, List.map_nil]); first | done | rfl) ?_
  refine (times_made x.fn x.fd _).mono ?_
  rintro e wz ⟨b1, rfl, g1, c1, hb_⟩
  refine ⟨_, rfl, ?_⟩
  refine hK.out _ _ (hHeld.step hb_) (fun hHeld => ?_)
  clear hK K
  refine norm_ (a' := ?_) ?_ ?_
  rotate_left
  · show Act.put _ (some 67) _ = _
    simp only [Act.put, List.setIfInBounds_toArray, List.set_cons_zero, List.set_cons_succ, i64_w, i32_w]
    rfl
  refine one_ (i := 6) (N := some 70) #[true, true, true, true, true, true, true, true, false, true, false, false, false, false, false, false, false] rfl rfl (by kernel_rfl) (by decide) (fun K hK => ?_)
  refine goes_ Try.func65 (by kernel_rfl) rfl #[.agg #[.int .i64 x.on, .int .i64 x.od]] (by rfl) rfl rfl (by (try simp only [List.map_toArray, List.map_cons, List.map_nil]); first | done | rfl) ?_
  refine (plus_made x.on x.od _).mono ?_
  rintro e wz ⟨b2, rfl, g2, c2, hb_⟩
  refine ⟨_, rfl, ?_⟩
  replace c1 := blk_below c1 hb_
  refine hK.out _ _ (hHeld.step hb_) (fun hHeld => ?_)
  clear hK K
  refine norm_ (a' := ?_) ?_ ?_
  rotate_left
  · show Act.put _ (some 70) _ = _
    simp only [Act.put, List.setIfInBounds_toArray, List.set_cons_zero, List.set_cons_succ, i64_w, i32_w]
    rfl
  refine one_ (i := 8) (N := some 72) #[true, true, true, true, true, true, true, true, true, true, false, false, false, false, false, false, false] rfl rfl (by kernel_rfl) (by decide) (fun K hK => ?_)
  refine goes_ Try.func65 (by kernel_rfl) rfl #[.agg #[.int .i64 (-y.on), .int .i64 y.od]] (by rfl) rfl rfl (by (try simp only [List.map_toArray, List.map_cons, List.map_nil]); first | done | rfl) ?_
  refine (plus_made (-y.on) y.od _).mono ?_
  rintro e wz ⟨b3, rfl, g3, c3, hb_⟩
  refine ⟨_, rfl, ?_⟩
  replace c1 := blk_below c1 hb_
  replace c2 := blk_below c2 hb_
  refine hK.out _ _ (hHeld.step hb_) (fun hHeld => ?_)
  clear hK K
  refine norm_ (a' := ?_) ?_ ?_
  rotate_left
  · show Act.put _ (some 72) _ = _
    simp only [Act.put, List.setIfInBounds_toArray, List.set_cons_zero, List.set_cons_succ, i64_w, i32_w]
    rfl
  refine one_ (i := 10) (N := some 74) #[true, true, true, true, true, true, true, true, true, true, true, false, false, false, false, false, false] rfl rfl (by kernel_rfl) (by decide) (fun K hK => ?_)
  refine goes_ Try.func64 (by kernel_rfl) rfl #[.agg #[.int .i64 y.fd, .int .i64 y.fn]] (by rfl) rfl rfl (by (try simp only [List.map_toArray, List.map_cons, List.map_nil]); first | done | rfl) ?_
  refine (times_made y.fd y.fn _).mono ?_
  rintro e wz ⟨b4, rfl, g4, c4, hb_⟩
  refine ⟨_, rfl, ?_⟩
  replace c1 := blk_below c1 hb_
  replace c2 := blk_below c2 hb_
  replace c3 := blk_below c3 hb_
  refine hK.out _ _ (hHeld.step hb_) (fun hHeld => ?_)
  clear hK K
  refine norm_ (a' := ?_) ?_ ?_
  rotate_left
  · show Act.put _ (some 74) _ = _
    simp only [Act.put, List.setIfInBounds_toArray, List.set_cons_zero, List.set_cons_succ, i64_w, i32_w]
    rfl
  refine one_ (i := 11) (N := some 75) #[true, true, true, true, true, true, true, true, true, true, true, true, false, false, false, false, false] rfl rfl (by kernel_rfl) (by decide) (fun K hK => ?_)
  refine lit_step (by rfl) (N := 75) rfl (cs := #[Stp.fn ⟨true, b1, x.fn, x.fd⟩, Stp.fn ⟨false, b2, x.on, x.od⟩, Stp.fn ⟨false, b3, -y.on, y.od⟩, Stp.fn ⟨true, b4, y.fd, y.fn⟩]) (t := 103) (n := 4) ?_ ?_
  · first
      | kernel_rfl
      | (go_simp; done)
      | (go_simp; rfl)
  intro g hg wy hbg hbB
  clear hg
  replace c1 := blk_below c1 hbB
  replace c2 := blk_below c2 hbB
  replace c3 := blk_below c3 hbB
  replace c4 := blk_below c4 hbB
  refine hK.out _ _ (hHeld.step hbB) (fun hHeld => ?_)
  clear hK K
  refine norm_ (a' := ?_) ?_ ?_
  rotate_left
  · show Act.put _ (some 75) _ = _
    simp only [Act.put, List.setIfInBounds_toArray, List.set_cons_zero, List.set_cons_succ, i64_w, i32_w]
    rfl
  refine one_ (i := 12) (N := some 76) #[true, true, true, true, true, true, true, true, true, true, true, true, true, false, false, false, false] rfl rfl (by kernel_rfl) (by decide) (fun K hK => ?_)
  refine goes_ Try.func63 (by kernel_rfl) rfl #[.agg #[.int .i64 vn, .int .i64 vd], .slice (some ⟨g, 0, none⟩) 4 4] (by rfl) rfl rfl (by (try simp only [List.map_toArray, List.map_cons, List.map_nil]); first | done | rfl) ?_
  refine (steps_calls h1 h2 [⟨true, b1, x.fn, x.fd⟩, ⟨false, b2, x.on, x.od⟩, ⟨false, b3, -y.on, y.od⟩, ⟨true, b4, y.fd, y.fn⟩] (by show 4 ≤ 8; omega) g _ hbg (by intro s hs; simp only [List.mem_cons, List.not_mem_nil, or_false] at hs; rcases hs with rfl | rfl | rfl | rfl; exact ⟨c1, gx1, gx2⟩; exact ⟨c2, gx3, gx4⟩; exact ⟨c3, gy5, gy4⟩; exact ⟨c4, gy2, gy1⟩)).mono ?_
  rintro e wz ⟨he, hb_⟩
  have he2 : e = ans (r1, r2, r3) := by rw [he, ← HRES.out]; rfl
  subst he2
  have hx2 := (hHeld.step hb_).c.b.b2
  have d0 : wz.cell? ⟨w.heap.size + 1, 0, none⟩ = some (.int .i64 0) := blk_cell hx2 0
  have d1 : wz.cell? ⟨w.heap.size + 1, 1, none⟩ = some (.int .i64 0) := blk_cell hx2 1
  have df0 : wz.frozen? ⟨w.heap.size + 1, 0, none⟩ = false := blk_frozen hx2 0
  have df1 : wz.frozen? ⟨w.heap.size + 1, 1, none⟩ = false := blk_frozen hx2 1
  have hbe := (hHeld.step hb_).c.b.be
  refine ⟨_, rfl, ?_⟩
  refine hK.out _ _ (hHeld.step hb_) (fun hHeld => ?_)
  clear hK K
  refine norm_ (a' := ?_) ?_ ?_
  rotate_left
  · show Act.put _ (some 76) _ = _
    simp only [Act.put, List.setIfInBounds_toArray, List.set_cons_zero, List.set_cons_succ, i64_w, i32_w]
    rfl
  refine pure_ (i := 13) (N := some 77) (v := ?_) (a' := ?_) #[true, true, true, true, true, true, true, true, true, true, true, true, true, true, false, false, false] rfl rfl (by kernel_rfl) (fun _ _ _ h => h) (Or.inl ⟨by rfl, ?_⟩) ?_ ?_
  rotate_left
  · intro w'
    go_simp
    try with_reducible rfl
  rotate_left
  · simp only [Act.put, List.setIfInBounds_toArray, List.set_cons_zero, List.set_cons_succ, i64_w, i32_w]
    rfl
  refine pure_ (i := 14) (N := some 78) (v := ?_) (a' := ?_) #[true, true, true, true, true, true, true, true, true, true, true, true, true, true, true, false, false] rfl rfl (by kernel_rfl) (fun _ _ _ h => h) (Or.inl ⟨by rfl, ?_⟩) ?_ ?_
  rotate_left
  · intro w'
    go_simp
    try with_reducible rfl
  rotate_left
  · simp only [Act.put, List.setIfInBounds_toArray, List.set_cons_zero, List.set_cons_succ, i64_w, i32_w]
    rfl
  refine last_ (i := 15) (N := none) #[true, true, true, true, true, true, true, true, true, true, true, true, true, true, true, true, false] rfl rfl (by kernel_rfl) (by decide) (fun K hK => ?_)
  refine skip_ (w1 := (wz.setCell ⟨w.heap.size + 1, 0, none⟩ (.int .i64 r1)).setCell ⟨w.heap.size + 1, 1, none⟩ (.int .i64 r2)) (by rfl) rfl ?_ ?_
  · first
    | (go_simp; done)
    | (go_simp; rfl)
  refine hK.out _ _ ?_
  clear hK K
  refine norm_ (a' := ?_) ?_ ?_
  rotate_left
  · rfl
  refine pure_ (i := 16) (N := some 7) (v := ?_) (a' := ?_) #[true, true, true, true, true, true, true, true, true, true, true, true, true, true, true, true, true] rfl rfl (by kernel_rfl) (fun _ _ _ h => h) (Or.inl ⟨by rfl, ?_⟩) ?_ ?_
  rotate_left
  · intro w'
    go_simp
    try with_reducible rfl
  rotate_left
  · simp only [Act.put, List.setIfInBounds_toArray, List.set_cons_zero, List.set_cons_succ, i64_w, i32_w]
    rfl
  refine done_ (by kernel_rfl) ?_
  have k7 := blk_set (blk_set hx2 0 (.int .i64 r1)) 1 (.int .i64 r2)
  have hB7 := (hbe.setCell (p := ⟨w.heap.size + 1, 0, none⟩) (by show w.heap.size ≤ w.heap.size + 1; omega) (.int .i64 r1)).setCell (p := ⟨w.heap.size + 1, 1, none⟩) (by show w.heap.size ≤ w.heap.size + 1; omega) (.int .i64 r2)
  obtain ⟨w7, hw7⟩ : ∃ w7, w7 = ((wz.setCell ⟨w.heap.size + 1, 0, none⟩ (.int .i64 r1)).setCell ⟨w.heap.size + 1, 1, none⟩ (.int .i64 r2)) := ⟨_, rfl⟩
  rw [← hw7] at k7 hB7
  try rw [← hw7]
  clear hw7
  have s0 : w7.cell? ⟨w.heap.size + 1, 0, none⟩ = some (.int .i64 r1) := blk_cell k7 0
  have s1 : w7.cell? ⟨w.heap.size + 1, 1, none⟩ = some (.int .i64 r2) := blk_cell k7 1
  go_wp2_with fail
  refine bodyPost_ret (by simp [results, Try.results29, go_sem, s0, s1]; try rfl) rfl ?_
  exact ⟨rfl, hB7⟩

/-- What a conversion answers. -/
def convR (a b : ByteArray) (vn vd : Int) : Int × Int × Int :=
  match find a, find b with
  | some x, some y => if likeU x y then (if Rt vn vd then (if a.toList = b.toList then (vn, vd, 0) else stepsU x y (vn, vd, 0)) else (0, 0, 1)) else (0, 0, 5)
  | _, _ => (0, 0, 4)
theorem conv_calls {vn vd : Int} (h1 : I64 vn) (h2 : I64 vd) (a b : ByteArray) (w : World) :
    Calls Try.prog 29 #[.agg #[.int .i64 vn, .int .i64 vd], .string a, .string b] w fun e w' => e = ans (convR a b vn vd) ∧ Below w.heap.size w w' := by
  unfold convR
  cases hx : find a with
  | none => exact conv_missing h1 h2 a b (.inl hx) w
  | some x =>
    cases hy : find b with
    | none => exact conv_missing h1 h2 a b (.inr hy) w
    | some y =>
      dsimp only
      by_cases hl : likeU x y
      · rw [if_pos hl]
        by_cases hv : Rt vn vd
        · rw [if_pos hv]
          by_cases hs : a.toList = b.toList
          · rw [if_pos hs]
            exact conv_same h1 h2 a b x y hx hy hl hv hs w
          · rw [if_neg hs]
            exact conv_steps h1 h2 a b x y hx hy hl hv hs w
        · rw [if_neg hv]
          exact conv_wrong h1 h2 a b x y hx hy hl hv w
      · rw [if_neg hl]
        exact conv_unlike h1 h2 a b x y hx hy hl w
end Go.Proofs.Ytcldlfhnmkogeaa.Unit

/- What conversions are worth, in plain Lean. -/
set_option linter.unusedVariables false
set_option linter.unusedSimpArgs false
namespace Go.Proofs.Ytcldlfhnmkogeaa.Unit
open Go.Proofs.Ytcldlfhnmkogeaa.RatPlain Go.Proofs.Ytcldlfhnmkogeaa.Scale

theorem find_congr {a b : ByteArray} (h : a.toList = b.toList) : find a = find b := by
  unfold find
  rw [h]
/-- A unit's factor and offset. -/
def URow.F (u : URow) : Rat := RatPlain.val u.fn u.fd
def URow.O (u : URow) : Rat := RatPlain.val u.on u.od
theorem pos_of {n d : Int} (h : Rt n d) (h0 : 0 < n) : 0 < val n d := by
  have h1 := val_lt (Rt_one 0) h
  have e : val 0 1 = 0 := (val_zero (Rt_one 0)).2 rfl
  rw [e] at h1
  rw [h1]
  omega
theorem URow.good.pos {u : URow} (h : u.good) : 0 < u.F := pos_of h.2.2.2.2.2.2.1 h.2.2.2.2.2.1
theorem inv_unit {n d : Int} (h : Rt n d) (h0 : 0 < n) : Rt d n ∧ val d n * val n d = 1 := by
  have h1 := h.1
  refine ⟨⟨h0, by rw [Int.gcd_comm]; exact h.2⟩, ?_⟩
  unfold val
  rw [Rat.divInt_mul_divInt, Int.mul_comm]
  exact Rat.divInt_self' (Int.mul_ne_zero (by omega) (by omega))
/-- The steps go beyond, or are worth what they are to be. -/
theorem steps_cases {x y : URow} (hx : x.good) (hy : y.good) {vn vd : Int} (hv : Rt vn vd) :
    stepsU x y (vn, vd, 0) = (0, 0, 2) ∨ ∃ n d, stepsU x y (vn, vd, 0) = (n, d, 0) ∧ Rt n d ∧ val n d * y.F + y.O = val vn vd * x.F + x.O := by
  obtain ⟨_, _, _, _, _, _, xf, xo⟩ := hx
  obtain ⟨_, _, _, _, _, yp, yf, yo⟩ := hy
  obtain ⟨yi, hyi⟩ := inv_unit yf yp
  unfold stepsU
  rcases timesW_cases (vn, vd, 0) x.fn x.fd xf with ⟨h1, _⟩ | ⟨_, h1, _⟩ | ⟨_, h1⟩ | ⟨_, n1, d1, h1, h2, h3⟩
  · exact absurd rfl h1
  · exact absurd hv h1
  · rw [h1]; exact .inl rfl
  · rw [h1]
    rcases plusW_cases (n1, d1, 0) x.on x.od xo with ⟨k1, _⟩ | ⟨_, k1, _⟩ | ⟨_, k1⟩ | ⟨_, n2, d2, k1, k2, k3⟩
    · exact absurd rfl k1
    · exact absurd h2 k1
    · rw [k1]; exact .inl rfl
    · rw [k1]
      rcases plusW_cases (n2, d2, 0) (-y.on) y.od (Rt_neg yo) with ⟨m1, _⟩ | ⟨_, m1, _⟩ | ⟨_, m1⟩ | ⟨_, n3, d3, m1, m2, m3⟩
      · exact absurd rfl m1
      · exact absurd k2 m1
      · rw [m1]; exact .inl rfl
      · rw [m1]
        rcases timesW_cases (n3, d3, 0) y.fd y.fn yi with ⟨p1, _⟩ | ⟨_, p1, _⟩ | ⟨_, p1⟩ | ⟨_, n4, d4, p1, p2, p3⟩
        · exact absurd rfl p1
        · exact absurd m2 p1
        · exact .inl p1
        · refine .inr ⟨n4, d4, p1, p2, ?_⟩
          dsimp only at h3 k3 m3 p3
          rw [val_neg] at m3
          unfold URow.F URow.O
          rw [p3, m3, k3, h3]
          grind
theorem conv_cases (a b : ByteArray) {vn vd : Int} (hv : Rt vn vd) : ((find a = none ∨ find b = none) ∧ convR a b vn vd = (0, 0, 4)) ∨
    ∃ x y, find a = some x ∧ find b = some y ∧ ((¬ likeU x y ∧ convR a b vn vd = (0, 0, 5)) ∨ (likeU x y ∧ convR a b vn vd = (0, 0, 2) ∧ a.toList ≠ b.toList) ∨
      (likeU x y ∧ ∃ n d, convR a b vn vd = (n, d, 0) ∧ Rt n d ∧ val n d * y.F + y.O = val vn vd * x.F + x.O)) := by
  unfold convR
  cases hx : find a with
  | none => exact .inl ⟨.inl rfl, rfl⟩
  | some x =>
    cases hy : find b with
    | none => exact .inl ⟨.inr rfl, rfl⟩
    | some y =>
      refine .inr ⟨x, y, rfl, rfl, ?_⟩
      dsimp only
      by_cases hl : likeU x y
      · rw [if_pos hl, if_pos hv]
        by_cases hs : a.toList = b.toList
        · rw [if_pos hs]
          have e := find_congr hs
          rw [hx, hy] at e
          cases e
          exact .inr (.inr ⟨hl, vn, vd, rfl, hv, rfl⟩)
        · rw [if_neg hs]
          rcases steps_cases (find_good hx) (find_good hy) hv with h | ⟨n, d, h1, h2, h3⟩
          · exact .inr (.inl ⟨hl, h, hs⟩)
          · exact .inr (.inr ⟨hl, n, d, h1, h2, h3⟩)
      · rw [if_neg hl]
        exact .inl ⟨hl, rfl⟩
theorem conv_ok {a b : ByteArray} {vn vd n d : Int} (hv : Rt vn vd) (h : convR a b vn vd = (n, d, 0)) : ∃ x y, find a = some x ∧ find b = some y ∧ likeU x y ∧ Rt n d ∧ val n d * y.F + y.O = val vn vd * x.F + x.O := by
  rcases conv_cases a b hv with ⟨_, k⟩ | ⟨x, y, hx, hy, ⟨_, k⟩ | ⟨_, k, _⟩ | ⟨hl, n', d', k, k2, k3⟩⟩
  · rw [k] at h; cases h
  · rw [k] at h; cases h
  · rw [k] at h; cases h
  · rw [k] at h
    cases h
    exact ⟨x, y, hx, hy, hl, k2, k3⟩
theorem cancel {p q f o : Rat} (hf : 0 < f) (h : p * f + o = q * f + o) : p = q := by
  have : p * f = q * f := by grind
  have hn : f ≠ 0 := by grind
  grind
/-- Over a third unit. -/
theorem third {a b c : ByteArray} {vn vd x1 x2 y1 y2 z1 z2 : Int} (hv : Rt vn vd) (hx : convR a b vn vd = (x1, x2, 0)) (hy : convR b c x1 x2 = (y1, y2, 0)) (hz : convR a c vn vd = (z1, z2, 0)) : y1 = z1 ∧ y2 = z2 := by
  obtain ⟨ua, ub, fa, fb, _, rx, ex⟩ := conv_ok hv hx
  obtain ⟨ub2, uc, fb2, fc, _, ry, ey⟩ := conv_ok rx hy
  obtain ⟨ua2, uc2, fa2, fc2, _, rz, ez⟩ := conv_ok hv hz
  rw [fb] at fb2; cases fb2
  rw [fa] at fa2; cases fa2
  rw [fc] at fc2; cases fc2
  refine val_inj ry rz (cancel (f := uc.F) (o := uc.O) (find_good fc).pos ?_)
  rw [ey, ex, ez]
/-- There and back. -/
theorem back {a b : ByteArray} {vn vd x1 x2 y1 y2 : Int} (hv : Rt vn vd) (hx : convR a b vn vd = (x1, x2, 0)) (hy : convR b a x1 x2 = (y1, y2, 0)) : y1 = vn ∧ y2 = vd := by
  obtain ⟨ua, ub, fa, fb, _, rx, ex⟩ := conv_ok hv hx
  obtain ⟨ub2, ua2, fb2, fa2, _, ry, ey⟩ := conv_ok rx hy
  rw [fb] at fb2; cases fb2
  rw [fa] at fa2; cases fa2
  refine val_inj ry hv (cancel (f := ua.F) (o := ua.O) (find_good fa).pos ?_)
  rw [ey, ex]
theorem conv_In {a b : ByteArray} {vn vd : Int} (h1 : I64 vn) (h2 : I64 vd) : In (convR a b vn vd) := by
  have h0 : I64 0 := by decide
  unfold convR
  repeat' split
  all_goals first
    | exact ⟨h0, h0⟩
    | exact ⟨h1, h2⟩
    | exact timesW_In (plusW_In (plusW_In (timesW_In ⟨h1, h2⟩)))
theorem awake_conv : convR ⟨#[102]⟩ ⟨#[99]⟩ 212 1 = (100, 1, 0) := by decide +kernel
end Go.Proofs.Ytcldlfhnmkogeaa.Unit

/- What the laws of layer 3 share. -/
set_option linter.unusedVariables false
set_option linter.unusedSimpArgs false
namespace Go.Proofs.Ytcldlfhnmkogeaa.UnitLaw
open Go.RowKit Go.Proofs.YtcldlfhnmkogeaaW.PrintWords Go.Proofs.YtcldlfhnmkogeaaW.PrintLast Go.Proofs.Ytcldlfhnmkogeaa.Nats Go.Proofs.Ytcldlfhnmkogeaa.HeapKit Go.Proofs.Ytcldlfhnmkogeaa.RatPlain Go.Proofs.Ytcldlfhnmkogeaa.Scale Go.Proofs.Ytcldlfhnmkogeaa.Unit

theorem of02_calls (n d : Int) (w : World) : Calls Try.prog 25 #[.agg #[.int .i64 n, .int .i64 d]] w fun e w' => e = .returned (.agg #[.int .i64 n, .int .i64 d]) ∧ Below w.heap.size w w' :=
  POf.lancetlaw02_Of.calls _ _ _ _ w rfl
set_option maxRecDepth 100000 in
set_option maxHeartbeats 4000000 in
theorem awake_calls (w : World) : Calls Try.prog 28 #[] w fun e w' => e = .returned (.bool true) ∧ Below w.heap.size w w' := by
  have hv := fun w => conv_calls (vn := 212) (vd := 1) (by decide) (by decide) ⟨#[102]⟩ ⟨#[99]⟩ w
  simp only [awake_conv, ans] at hv
  have HV := Lib.hid hv
  clear hv
  go_enter Try.func28, Try.ntmps28
  go_wp2_with fail
  refine (HV.out _).mono ?_
  rintro e w1 ⟨rfl, hb1⟩
  have hB2 := bthen hb1 (below_alloc (Below.refl _ _) (.cells #[.int .i64 100, .int .i64 1] 29))
  have kx := blk_new w1 (.cells #[.int .i64 100, .int .i64 1] 29)
  have c0 : (w1.alloc (.cells #[.int .i64 100, .int .i64 1] 29)).cell? ⟨w1.heap.size, 0, none⟩ = some (.int .i64 100) := blk_cell kx 0
  have c1 : (w1.alloc (.cells #[.int .i64 100, .int .i64 1] 29)).cell? ⟨w1.heap.size, 1, none⟩ = some (.int .i64 1) := blk_cell kx 1
  go_wp2_with fail
  go_ret
  exact ⟨rfl, hB2⟩
/-- A conversion's answer, given. -/
theorem conv_as {a b : ByteArray} {vn vd r1 r2 r3 : Int} (h1 : I64 vn) (h2 : I64 vd) (h : convR a b vn vd = (r1, r2, r3)) : (∀ w, Calls Try.prog 29 #[.agg #[.int .i64 vn, .int .i64 vd], .string a, .string b] w fun e w' => e = .returned (.tuple #[.agg #[.int .i64 r1, .int .i64 r2], .int .i64 r3]) ∧ Below w.heap.size w w') ∧ I64 r1 ∧ I64 r2 := by
  have hi := conv_In (a := a) (b := b) h1 h2
  have hc := fun w => conv_calls h1 h2 a b w
  rw [h] at hi
  simp only [h, ans] at hc
  exact ⟨hc, hi.1, hi.2⟩
theorem conv_ex {a b : ByteArray} {vn vd : Int} (h1 : I64 vn) (h2 : I64 vd) : ∃ r1 r2 r3, convR a b vn vd = (r1, r2, r3) ∧ (∀ w, Calls Try.prog 29 #[.agg #[.int .i64 vn, .int .i64 vd], .string a, .string b] w fun e w' => e = .returned (.tuple #[.agg #[.int .i64 r1, .int .i64 r2], .int .i64 r3]) ∧ Below w.heap.size w w') ∧ I64 r1 ∧ I64 r2 :=
  ⟨_, _, _, rfl, conv_as h1 h2 rfl⟩
end Go.Proofs.Ytcldlfhnmkogeaa.UnitLaw


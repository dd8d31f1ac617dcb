import Derived.Test.YtcldlfhnmkogeaaUnitMore
import Derived.Test.YtcldlfhnmkogeaaRefFind
import Derived.Test.YtcldlfhnmkogeaaRefMore
/- What the document's conversion works out, in plain Lean. -/
set_option linter.unusedVariables false
set_option linter.unusedSimpArgs false
namespace Go.Proofs.Ytcldlfhnmkogeaa.Unit
open Go.Proofs.Ytcldlfhnmkogeaa.RatPlain Go.Proofs.Ytcldlfhnmkogeaa.Scale

/-- What the document's conversion answers. -/
def convB (x y : URow) (vn vd : Int) : Option (Int × Int) :=
  if x.name.toList = y.name.toList then some (vn, vd) else
    (mulR vn vd x.fn x.fd).bind fun p => (addR p.1 p.2 x.on x.od).bind fun q => (addR q.1 q.2 (-y.on) y.od).bind fun s => mulR s.1 s.2 y.fd y.fn
def outO (o : Option (Int × Int)) : Int × Int × Int := match o with | some p => (p.1, p.2, 0) | none => (0, 0, 2)
theorem told_out {P : Prop} [Decidable P] (h : P) (r : Option (Int × Int)) : told P r = outO r := by
  unfold told outO
  rw [if_pos h]
  cases r <;> rfl
theorem mul_Rt {an ad bn bd : Int} (ra : Rt an ad) (rb : Rt bn bd) : ∀ p, mulR an ad bn bd = some p → Rt p.1 p.2 := fun _ h => (mul_val ra rb h).1
theorem add_Rt {an ad bn bd : Int} (ra : Rt an ad) (rb : Rt bn bd) : ∀ p, addR an ad bn bd = some p → Rt p.1 p.2 := fun _ h => (add_val ra rb h).1
theorem times_bind (o : Option (Int × Int)) (ho : ∀ p, o = some p → Rt p.1 p.2) {bn bd : Int} (rb : Rt bn bd) : timesW (outO o) bn bd = outO (o.bind fun p => mulR p.1 p.2 bn bd) := by
  cases o with
  | none => rfl
  | some p => exact told_out (P := Rt p.1 p.2 ∧ Rt bn bd) ⟨ho p rfl, rb⟩ _
theorem plus_bind (o : Option (Int × Int)) (ho : ∀ p, o = some p → Rt p.1 p.2) {bn bd : Int} (rb : Rt bn bd) : plusW (outO o) bn bd = outO (o.bind fun p => addR p.1 p.2 bn bd) := by
  cases o with
  | none => rfl
  | some p => exact told_out (P := Rt p.1 p.2 ∧ Rt bn bd) ⟨ho p rfl, rb⟩ _
theorem bind_Rt {f : Int × Int → Option (Int × Int)} (o : Option (Int × Int)) (hf : ∀ p, o = some p → ∀ q, f p = some q → Rt q.1 q.2) : ∀ q, o.bind f = some q → Rt q.1 q.2 := by
  intro q h
  cases o with
  | none => cases h
  | some p => exact hf p rfl q h
theorem steps_eq {x y : URow} (hx : x.good) (hy : y.good) {vn vd : Int} (hv : Rt vn vd) (hn : x.name.toList ≠ y.name.toList) : stepsU x y (vn, vd, 0) = outO (convB x y vn vd) := by
  obtain ⟨_, _, _, _, _, _, xf, xo⟩ := hx
  obtain ⟨_, _, _, _, _, yp, yf, yo⟩ := hy
  obtain ⟨yi, hyi⟩ := inv_unit yf yp
  unfold stepsU convB
  rw [if_neg hn]
  have e : ((vn, vd, 0) : Int × Int × Int) = outO (some (vn, vd)) := rfl
  have r1 : ∀ p, (some (vn, vd) : Option (Int × Int)).bind (fun p => mulR p.1 p.2 x.fn x.fd) = some p → Rt p.1 p.2 := bind_Rt _ (by intro p hp; cases hp; exact mul_Rt hv xf)
  have r2 := bind_Rt (f := fun p => addR p.1 p.2 x.on x.od) _ (fun p hp => add_Rt (r1 p hp) xo)
  have r3 := bind_Rt (f := fun p => addR p.1 p.2 (-y.on) y.od) _ (fun p hp => add_Rt (r2 p hp) (Rt_neg yo))
  rw [e, times_bind _ (by intro p hp; cases hp; exact hv) xf, plus_bind _ r1 xo, plus_bind _ r2 (Rt_neg yo), times_bind _ r3 yi]
  congr 1
  cases h1 : mulR vn vd x.fn x.fd with
  | none => simp [h1]
  | some p =>
    cases h2 : addR p.1 p.2 x.on x.od with
    | none => simp [h1, h2]
    | some q =>
      cases h3 : addR q.1 q.2 (-y.on) y.od with
      | none => simp [h1, h2, h3]
      | some s => simp [h1, h2, h3]
/-- The program's conversion and the document's. -/
theorem conv_doc {a b : ByteArray} {x y : URow} (ha : find a = some x) (hb : find b = some y) (hl : likeU x y) {vn vd : Int} (hv : Rt vn vd) : convR a b vn vd = outO (convB (refRow a) (refRow b) vn vd) := by
  unfold convR
  rw [ha, hb]
  dsimp only
  rw [if_pos hl, if_pos hv, refRow_some ha, refRow_some hb]
  by_cases hs : a.toList = b.toList
  · rw [if_pos hs]
    unfold convB
    dsimp only
    rw [if_pos hs]
    rfl
  · rw [if_neg hs]
    have gx := find_good ha
    have gy := find_good hb
    exact steps_eq (x := { x with name := a }) (y := { y with name := b }) gx gy hv hs
end Go.Proofs.Ytcldlfhnmkogeaa.Unit

/- A conversion, as the document has it (lancetref03.Convert), walked. -/
set_option linter.unusedVariables false
set_option linter.unusedSimpArgs false
namespace Go.Proofs.Ytcldlfhnmkogeaa.Unit
open Go.RowKit Go.Proofs.YtcldlfhnmkogeaaW.PrintWords Go.Proofs.YtcldlfhnmkogeaaW.PrintLast Go.Proofs.Ytcldlfhnmkogeaa.Nats Go.Proofs.Ytcldlfhnmkogeaa.HeapKit Go.Proofs.Ytcldlfhnmkogeaa.RatPlain Go.Proofs.Ytcldlfhnmkogeaa.Scale Go.Proofs.Ytcldlfhnmkogeaa.RefWalk

/-- The boxes. -/
structure Cb (w wx : World) (vn vd : Int) (x y : URow) : Prop where
  b : B3 w wx (.cells #[.int .i64 vn, .int .i64 vd] 23) (.cells #[.string x.name, .int .i64 x.d0, .int .i64 x.d1, .int .i64 x.d2, .int .i64 x.d3, .int .i64 x.fn, .int .i64 x.fd, .int .i64 x.on, .int .i64 x.od, .int .i64 x.code] 48) (.cells #[.string y.name, .int .i64 y.d0, .int .i64 y.d1, .int .i64 y.d2, .int .i64 y.d3, .int .i64 y.fn, .int .i64 y.fd, .int .i64 y.on, .int .i64 y.od, .int .i64 y.code] 48)
  k : wx.heap[w.heap.size + 1 + 1 + 1]? = some (.cells #[.int .i64 0, .int .i64 0] 23 (0, 0))
theorem Cb.be {w wx : World} {vn vd : Int} {x y : URow} (h : Cb w wx vn vd x y) : Below w.heap.size w wx := h.b.be
theorem Cb.step {w wx w2 : World} {vn vd : Int} {x y : URow} (h : Cb w wx vn vd x y) (hb : Below wx.heap.size wx w2) : Cb w w2 vn vd x y :=
  ⟨h.b.step hb, blk_below h.k hb⟩
theorem cb_start (w : World) (vn vd : Int) (x y : URow) : Cb w ((((w.alloc (.cells #[.int .i64 vn, .int .i64 vd] 23)).alloc (.cells #[.string x.name, .int .i64 x.d0, .int .i64 x.d1, .int .i64 x.d2, .int .i64 x.d3, .int .i64 x.fn, .int .i64 x.fd, .int .i64 x.on, .int .i64 x.od, .int .i64 x.code] 48)).alloc (.cells #[.string y.name, .int .i64 y.d0, .int .i64 y.d1, .int .i64 y.d2, .int .i64 y.d3, .int .i64 y.fn, .int .i64 y.fd, .int .i64 y.on, .int .i64 y.od, .int .i64 y.code] 48)).alloc (.cells #[.int .i64 0, .int .i64 0] 23)) vn vd x y :=
  ⟨(b3_start w (.cells #[.int .i64 vn, .int .i64 vd] 23) (.cells #[.string x.name, .int .i64 x.d0, .int .i64 x.d1, .int .i64 x.d2, .int .i64 x.d3, .int .i64 x.fn, .int .i64 x.fd, .int .i64 x.on, .int .i64 x.od, .int .i64 x.code] 48) (.cells #[.string y.name, .int .i64 y.d0, .int .i64 y.d1, .int .i64 y.d2, .int .i64 y.d3, .int .i64 y.fn, .int .i64 y.fd, .int .i64 y.on, .int .i64 y.od, .int .i64 y.code] 48)).step (below_alloc (Below.refl _ _) _), by
    have h := blk_new (((w.alloc (.cells #[.int .i64 vn, .int .i64 vd] 23)).alloc (.cells #[.string x.name, .int .i64 x.d0, .int .i64 x.d1, .int .i64 x.d2, .int .i64 x.d3, .int .i64 x.fn, .int .i64 x.fd, .int .i64 x.on, .int .i64 x.od, .int .i64 x.code] 48)).alloc (.cells #[.string y.name, .int .i64 y.d0, .int .i64 y.d1, .int .i64 y.d2, .int .i64 y.d3, .int .i64 y.fn, .int .i64 y.fd, .int .i64 y.on, .int .i64 y.od, .int .i64 y.code] 48)) (.cells #[.int .i64 0, .int .i64 0] 23)
    rw [World.size_alloc, World.size_alloc, World.size_alloc] at h
    exact h⟩

set_option maxRecDepth 100000 in
set_option maxHeartbeats 4000000 in
theorem rconv_same (x y : URow) (gx : x.good) (gy : y.good) {vn vd : Int} (h1 : I64 vn) (h2 : I64 vd) (hv : Rt vn vd) (hs : x.name.toList = y.name.toList) (w : World) :
    Calls Try.prog 31 #[.agg #[.int .i64 vn, .int .i64 vd], .agg #[.string x.name, .int .i64 x.d0, .int .i64 x.d1, .int .i64 x.d2, .int .i64 x.d3, .int .i64 x.fn, .int .i64 x.fd, .int .i64 x.on, .int .i64 x.od, .int .i64 x.code], .agg #[.string y.name, .int .i64 y.d0, .int .i64 y.d1, .int .i64 y.d2, .int .i64 y.d3, .int .i64 y.fn, .int .i64 y.fd, .int .i64 y.on, .int .i64 y.od, .int .i64 y.code]] w fun e w' => e = ansB (vn, vd, true) ∧ Below w.heap.size w w' := by
  have ee : (x.name.toList == y.name.toList) = true := by simp [hs]
  clear hs
  have hB := cb_start w vn vd x y
  have v0 : ((((w.alloc (.cells #[.int .i64 vn, .int .i64 vd] 23)).alloc (.cells #[.string x.name, .int .i64 x.d0, .int .i64 x.d1, .int .i64 x.d2, .int .i64 x.d3, .int .i64 x.fn, .int .i64 x.fd, .int .i64 x.on, .int .i64 x.od, .int .i64 x.code] 48)).alloc (.cells #[.string y.name, .int .i64 y.d0, .int .i64 y.d1, .int .i64 y.d2, .int .i64 y.d3, .int .i64 y.fn, .int .i64 y.fd, .int .i64 y.on, .int .i64 y.od, .int .i64 y.code] 48)).alloc (.cells #[.int .i64 0, .int .i64 0] 23)).cell? ⟨w.heap.size, 0, none⟩ = some (.int .i64 vn) := blk_cell hB.b.b1 0
  have v1 : ((((w.alloc (.cells #[.int .i64 vn, .int .i64 vd] 23)).alloc (.cells #[.string x.name, .int .i64 x.d0, .int .i64 x.d1, .int .i64 x.d2, .int .i64 x.d3, .int .i64 x.fn, .int .i64 x.fd, .int .i64 x.on, .int .i64 x.od, .int .i64 x.code] 48)).alloc (.cells #[.string y.name, .int .i64 y.d0, .int .i64 y.d1, .int .i64 y.d2, .int .i64 y.d3, .int .i64 y.fn, .int .i64 y.fd, .int .i64 y.on, .int .i64 y.od, .int .i64 y.code] 48)).alloc (.cells #[.int .i64 0, .int .i64 0] 23)).cell? ⟨w.heap.size, 1, none⟩ = some (.int .i64 vd) := blk_cell hB.b.b1 1
  have x0 : ((((w.alloc (.cells #[.int .i64 vn, .int .i64 vd] 23)).alloc (.cells #[.string x.name, .int .i64 x.d0, .int .i64 x.d1, .int .i64 x.d2, .int .i64 x.d3, .int .i64 x.fn, .int .i64 x.fd, .int .i64 x.on, .int .i64 x.od, .int .i64 x.code] 48)).alloc (.cells #[.string y.name, .int .i64 y.d0, .int .i64 y.d1, .int .i64 y.d2, .int .i64 y.d3, .int .i64 y.fn, .int .i64 y.fd, .int .i64 y.on, .int .i64 y.od, .int .i64 y.code] 48)).alloc (.cells #[.int .i64 0, .int .i64 0] 23)).cell? ⟨w.heap.size + 1, 0, none⟩ = some (.string x.name) := blk_cell hB.b.b2 0
  have x5 : ((((w.alloc (.cells #[.int .i64 vn, .int .i64 vd] 23)).alloc (.cells #[.string x.name, .int .i64 x.d0, .int .i64 x.d1, .int .i64 x.d2, .int .i64 x.d3, .int .i64 x.fn, .int .i64 x.fd, .int .i64 x.on, .int .i64 x.od, .int .i64 x.code] 48)).alloc (.cells #[.string y.name, .int .i64 y.d0, .int .i64 y.d1, .int .i64 y.d2, .int .i64 y.d3, .int .i64 y.fn, .int .i64 y.fd, .int .i64 y.on, .int .i64 y.od, .int .i64 y.code] 48)).alloc (.cells #[.int .i64 0, .int .i64 0] 23)).cell? ⟨w.heap.size + 1, 5, none⟩ = some (.int .i64 x.fn) := blk_cell hB.b.b2 5
  have x6 : ((((w.alloc (.cells #[.int .i64 vn, .int .i64 vd] 23)).alloc (.cells #[.string x.name, .int .i64 x.d0, .int .i64 x.d1, .int .i64 x.d2, .int .i64 x.d3, .int .i64 x.fn, .int .i64 x.fd, .int .i64 x.on, .int .i64 x.od, .int .i64 x.code] 48)).alloc (.cells #[.string y.name, .int .i64 y.d0, .int .i64 y.d1, .int .i64 y.d2, .int .i64 y.d3, .int .i64 y.fn, .int .i64 y.fd, .int .i64 y.on, .int .i64 y.od, .int .i64 y.code] 48)).alloc (.cells #[.int .i64 0, .int .i64 0] 23)).cell? ⟨w.heap.size + 1, 6, none⟩ = some (.int .i64 x.fd) := blk_cell hB.b.b2 6
  have x7 : ((((w.alloc (.cells #[.int .i64 vn, .int .i64 vd] 23)).alloc (.cells #[.string x.name, .int .i64 x.d0, .int .i64 x.d1, .int .i64 x.d2, .int .i64 x.d3, .int .i64 x.fn, .int .i64 x.fd, .int .i64 x.on, .int .i64 x.od, .int .i64 x.code] 48)).alloc (.cells #[.string y.name, .int .i64 y.d0, .int .i64 y.d1, .int .i64 y.d2, .int .i64 y.d3, .int .i64 y.fn, .int .i64 y.fd, .int .i64 y.on, .int .i64 y.od, .int .i64 y.code] 48)).alloc (.cells #[.int .i64 0, .int .i64 0] 23)).cell? ⟨w.heap.size + 1, 7, none⟩ = some (.int .i64 x.on) := blk_cell hB.b.b2 7
  have x8 : ((((w.alloc (.cells #[.int .i64 vn, .int .i64 vd] 23)).alloc (.cells #[.string x.name, .int .i64 x.d0, .int .i64 x.d1, .int .i64 x.d2, .int .i64 x.d3, .int .i64 x.fn, .int .i64 x.fd, .int .i64 x.on, .int .i64 x.od, .int .i64 x.code] 48)).alloc (.cells #[.string y.name, .int .i64 y.d0, .int .i64 y.d1, .int .i64 y.d2, .int .i64 y.d3, .int .i64 y.fn, .int .i64 y.fd, .int .i64 y.on, .int .i64 y.od, .int .i64 y.code] 48)).alloc (.cells #[.int .i64 0, .int .i64 0] 23)).cell? ⟨w.heap.size + 1, 8, none⟩ = some (.int .i64 x.od) := blk_cell hB.b.b2 8
  have y0 : ((((w.alloc (.cells #[.int .i64 vn, .int .i64 vd] 23)).alloc (.cells #[.string x.name, .int .i64 x.d0, .int .i64 x.d1, .int .i64 x.d2, .int .i64 x.d3, .int .i64 x.fn, .int .i64 x.fd, .int .i64 x.on, .int .i64 x.od, .int .i64 x.code] 48)).alloc (.cells #[.string y.name, .int .i64 y.d0, .int .i64 y.d1, .int .i64 y.d2, .int .i64 y.d3, .int .i64 y.fn, .int .i64 y.fd, .int .i64 y.on, .int .i64 y.od, .int .i64 y.code] 48)).alloc (.cells #[.int .i64 0, .int .i64 0] 23)).cell? ⟨w.heap.size + 1 + 1, 0, none⟩ = some (.string y.name) := blk_cell hB.b.b3 0
  have y5 : ((((w.alloc (.cells #[.int .i64 vn, .int .i64 vd] 23)).alloc (.cells #[.string x.name, .int .i64 x.d0, .int .i64 x.d1, .int .i64 x.d2, .int .i64 x.d3, .int .i64 x.fn, .int .i64 x.fd, .int .i64 x.on, .int .i64 x.od, .int .i64 x.code] 48)).alloc (.cells #[.string y.name, .int .i64 y.d0, .int .i64 y.d1, .int .i64 y.d2, .int .i64 y.d3, .int .i64 y.fn, .int .i64 y.fd, .int .i64 y.on, .int .i64 y.od, .int .i64 y.code] 48)).alloc (.cells #[.int .i64 0, .int .i64 0] 23)).cell? ⟨w.heap.size + 1 + 1, 5, none⟩ = some (.int .i64 y.fn) := blk_cell hB.b.b3 5
  have y6 : ((((w.alloc (.cells #[.int .i64 vn, .int .i64 vd] 23)).alloc (.cells #[.string x.name, .int .i64 x.d0, .int .i64 x.d1, .int .i64 x.d2, .int .i64 x.d3, .int .i64 x.fn, .int .i64 x.fd, .int .i64 x.on, .int .i64 x.od, .int .i64 x.code] 48)).alloc (.cells #[.string y.name, .int .i64 y.d0, .int .i64 y.d1, .int .i64 y.d2, .int .i64 y.d3, .int .i64 y.fn, .int .i64 y.fd, .int .i64 y.on, .int .i64 y.od, .int .i64 y.code] 48)).alloc (.cells #[.int .i64 0, .int .i64 0] 23)).cell? ⟨w.heap.size + 1 + 1, 6, none⟩ = some (.int .i64 y.fd) := blk_cell hB.b.b3 6
  have y7 : ((((w.alloc (.cells #[.int .i64 vn, .int .i64 vd] 23)).alloc (.cells #[.string x.name, .int .i64 x.d0, .int .i64 x.d1, .int .i64 x.d2, .int .i64 x.d3, .int .i64 x.fn, .int .i64 x.fd, .int .i64 x.on, .int .i64 x.od, .int .i64 x.code] 48)).alloc (.cells #[.string y.name, .int .i64 y.d0, .int .i64 y.d1, .int .i64 y.d2, .int .i64 y.d3, .int .i64 y.fn, .int .i64 y.fd, .int .i64 y.on, .int .i64 y.od, .int .i64 y.code] 48)).alloc (.cells #[.int .i64 0, .int .i64 0] 23)).cell? ⟨w.heap.size + 1 + 1, 7, none⟩ = some (.int .i64 y.on) := blk_cell hB.b.b3 7
  have y8 : ((((w.alloc (.cells #[.int .i64 vn, .int .i64 vd] 23)).alloc (.cells #[.string x.name, .int .i64 x.d0, .int .i64 x.d1, .int .i64 x.d2, .int .i64 x.d3, .int .i64 x.fn, .int .i64 x.fd, .int .i64 x.on, .int .i64 x.od, .int .i64 x.code] 48)).alloc (.cells #[.string y.name, .int .i64 y.d0, .int .i64 y.d1, .int .i64 y.d2, .int .i64 y.d3, .int .i64 y.fn, .int .i64 y.fd, .int .i64 y.on, .int .i64 y.od, .int .i64 y.code] 48)).alloc (.cells #[.int .i64 0, .int .i64 0] 23)).cell? ⟨w.heap.size + 1 + 1, 8, none⟩ = some (.int .i64 y.od) := blk_cell hB.b.b3 8
  go_enter Try.func31, Try.ntmps31
  have hx_ := hB.k
  have d_0 : ((((w.alloc (.cells #[.int .i64 vn, .int .i64 vd] 23)).alloc (.cells #[.string x.name, .int .i64 x.d0, .int .i64 x.d1, .int .i64 x.d2, .int .i64 x.d3, .int .i64 x.fn, .int .i64 x.fd, .int .i64 x.on, .int .i64 x.od, .int .i64 x.code] 48)).alloc (.cells #[.string y.name, .int .i64 y.d0, .int .i64 y.d1, .int .i64 y.d2, .int .i64 y.d3, .int .i64 y.fn, .int .i64 y.fd, .int .i64 y.on, .int .i64 y.od, .int .i64 y.code] 48)).alloc (.cells #[.int .i64 0, .int .i64 0] 23)).cell? ⟨w.heap.size + 1 + 1 + 1, 0, none⟩ = some (.int .i64 0) := blk_cell hx_ 0
  have df_0 : ((((w.alloc (.cells #[.int .i64 vn, .int .i64 vd] 23)).alloc (.cells #[.string x.name, .int .i64 x.d0, .int .i64 x.d1, .int .i64 x.d2, .int .i64 x.d3, .int .i64 x.fn, .int .i64 x.fd, .int .i64 x.on, .int .i64 x.od, .int .i64 x.code] 48)).alloc (.cells #[.string y.name, .int .i64 y.d0, .int .i64 y.d1, .int .i64 y.d2, .int .i64 y.d3, .int .i64 y.fn, .int .i64 y.fd, .int .i64 y.on, .int .i64 y.od, .int .i64 y.code] 48)).alloc (.cells #[.int .i64 0, .int .i64 0] 23)).frozen? ⟨w.heap.size + 1 + 1 + 1, 0, none⟩ = false := blk_frozen hx_ 0
  have d_1 : ((((w.alloc (.cells #[.int .i64 vn, .int .i64 vd] 23)).alloc (.cells #[.string x.name, .int .i64 x.d0, .int .i64 x.d1, .int .i64 x.d2, .int .i64 x.d3, .int .i64 x.fn, .int .i64 x.fd, .int .i64 x.on, .int .i64 x.od, .int .i64 x.code] 48)).alloc (.cells #[.string y.name, .int .i64 y.d0, .int .i64 y.d1, .int .i64 y.d2, .int .i64 y.d3, .int .i64 y.fn, .int .i64 y.fd, .int .i64 y.on, .int .i64 y.od, .int .i64 y.code] 48)).alloc (.cells #[.int .i64 0, .int .i64 0] 23)).cell? ⟨w.heap.size + 1 + 1 + 1, 1, none⟩ = some (.int .i64 0) := blk_cell hx_ 1
  have df_1 : ((((w.alloc (.cells #[.int .i64 vn, .int .i64 vd] 23)).alloc (.cells #[.string x.name, .int .i64 x.d0, .int .i64 x.d1, .int .i64 x.d2, .int .i64 x.d3, .int .i64 x.fn, .int .i64 x.fd, .int .i64 x.on, .int .i64 x.od, .int .i64 x.code] 48)).alloc (.cells #[.string y.name, .int .i64 y.d0, .int .i64 y.d1, .int .i64 y.d2, .int .i64 y.d3, .int .i64 y.fn, .int .i64 y.fd, .int .i64 y.on, .int .i64 y.od, .int .i64 y.code] 48)).alloc (.cells #[.int .i64 0, .int .i64 0] 23)).frozen? ⟨w.heap.size + 1 + 1 + 1, 1, none⟩ = false := blk_frozen hx_ 1
  go_wp2_with fail
  have k_ := (blk_set (blk_set hx_ 0 (.int .i64 vn)) 1 (.int .i64 vd))
  have hB_ := (Below.setCell (Below.setCell hB.be (p := ⟨w.heap.size + 1 + 1 + 1, 0, none⟩) ((by show w.heap.size ≤ w.heap.size + 1 + 1 + 1; omega)) (.int .i64 vn)) (p := ⟨w.heap.size + 1 + 1 + 1, 1, none⟩) ((by show w.heap.size ≤ w.heap.size + 1 + 1 + 1; omega)) (.int .i64 vd))
  obtain ⟨w_, hw_⟩ : ∃ w_, w_ = (World.setCell (World.setCell ((((w.alloc (.cells #[.int .i64 vn, .int .i64 vd] 23)).alloc (.cells #[.string x.name, .int .i64 x.d0, .int .i64 x.d1, .int .i64 x.d2, .int .i64 x.d3, .int .i64 x.fn, .int .i64 x.fd, .int .i64 x.on, .int .i64 x.od, .int .i64 x.code] 48)).alloc (.cells #[.string y.name, .int .i64 y.d0, .int .i64 y.d1, .int .i64 y.d2, .int .i64 y.d3, .int .i64 y.fn, .int .i64 y.fd, .int .i64 y.on, .int .i64 y.od, .int .i64 y.code] 48)).alloc (.cells #[.int .i64 0, .int .i64 0] 23)) ⟨w.heap.size + 1 + 1 + 1, 0, none⟩ (.int .i64 vn)) ⟨w.heap.size + 1 + 1 + 1, 1, none⟩ (.int .i64 vd)) := ⟨_, rfl⟩
  rw [← hw_] at k_ hB_
  try rw [← hw_]
  clear hw_
  have s_0 : w_.cell? ⟨w.heap.size + 1 + 1 + 1, 0, none⟩ = some (.int .i64 vn) := blk_cell k_ 0
  have s_1 : w_.cell? ⟨w.heap.size + 1 + 1 + 1, 1, none⟩ = some (.int .i64 vd) := blk_cell k_ 1
  refine bodyPost_ret (by simp [results, Try.results31, go_sem, s_0, s_1]; try rfl) rfl ?_
  exact ⟨rfl, ((b3_start w (.cells #[.int .i64 vn, .int .i64 vd] 23) (.cells #[.string x.name, .int .i64 x.d0, .int .i64 x.d1, .int .i64 x.d2, .int .i64 x.d3, .int .i64 x.fn, .int .i64 x.fd, .int .i64 x.on, .int .i64 x.od, .int .i64 x.code] 48) (.cells #[.string y.name, .int .i64 y.d0, .int .i64 y.d1, .int .i64 y.d2, .int .i64 y.d3, .int .i64 y.fn, .int .i64 y.fd, .int .i64 y.on, .int .i64 y.od, .int .i64 y.code] 48)).step (below_alloc (Below.refl _ _) _)).be⟩

theorem convB_1 {x y : URow} {vn vd : Int} (hs : x.name.toList ≠ y.name.toList) (h1 : mulR vn vd x.fn x.fd = none) : convB x y vn vd = none := by
  unfold convB
  rw [if_neg hs, h1]
  rfl
theorem convB_2 {x y : URow} {vn vd p1 p2 : Int} (hs : x.name.toList ≠ y.name.toList) (h1 : mulR vn vd x.fn x.fd = some (p1, p2)) (h2 : addR p1 p2 x.on x.od = none) : convB x y vn vd = none := by
  unfold convB
  rw [if_neg hs, h1]
  simp [h2]
theorem convB_3 {x y : URow} {vn vd p1 p2 q1 q2 : Int} (hs : x.name.toList ≠ y.name.toList) (h1 : mulR vn vd x.fn x.fd = some (p1, p2)) (h2 : addR p1 p2 x.on x.od = some (q1, q2)) (h3 : addR q1 q2 (-y.on) y.od = none) : convB x y vn vd = none := by
  unfold convB
  rw [if_neg hs, h1]
  simp [h2, h3]
theorem convB_4 {x y : URow} {vn vd p1 p2 q1 q2 s1 s2 : Int} (hs : x.name.toList ≠ y.name.toList) (h1 : mulR vn vd x.fn x.fd = some (p1, p2)) (h2 : addR p1 p2 x.on x.od = some (q1, q2)) (h3 : addR q1 q2 (-y.on) y.od = some (s1, s2)) : convB x y vn vd = mulR s1 s2 y.fd y.fn := by
  unfold convB
  rw [if_neg hs, h1]
  simp [h2, h3]

set_option maxRecDepth 100000 in
set_option maxHeartbeats 4000000 in
theorem rconv_steps (x y : URow) (gx : x.good) (gy : y.good) {vn vd : Int} (h1 : I64 vn) (h2 : I64 vd) (hv : Rt vn vd) (hs : x.name.toList ≠ y.name.toList) (w : World) :
    Calls Try.prog 31 #[.agg #[.int .i64 vn, .int .i64 vd], .agg #[.string x.name, .int .i64 x.d0, .int .i64 x.d1, .int .i64 x.d2, .int .i64 x.d3, .int .i64 x.fn, .int .i64 x.fd, .int .i64 x.on, .int .i64 x.od, .int .i64 x.code], .agg #[.string y.name, .int .i64 y.d0, .int .i64 y.d1, .int .i64 y.d2, .int .i64 y.d3, .int .i64 y.fn, .int .i64 y.fd, .int .i64 y.on, .int .i64 y.od, .int .i64 y.code]] w fun e w' => e = ansB (toldB (convB x y vn vd)) ∧ Below w.heap.size w w' := by
  have ee : (x.name.toList == y.name.toList) = false := by simp [hs]
  obtain ⟨gx1, gx2, gx3, gx4, _, gxp, gxf, gxo⟩ := gx
  obtain ⟨gy1, gy2, gy3, gy4, gy5, gyp, gyf, gyo⟩ := gy
  obtain ⟨gyi, _⟩ := inv_unit gyf gyp
  have gyn := Rt_neg gyo
  have eno : IntKind.i64.wrap (-y.on) = -y.on := by rw [i64_w]; exact wrap_in gy5
  have HS := Lib.hid hs
  have G := Lib.hid (And.intro gxp (And.intro gyp gyf))
  clear hs gxp gyp gyf
  obtain ⟨M, hm⟩ : ∃ M, mulR vn vd x.fn x.fd = M := ⟨_, rfl⟩
  have cm := fun w => refmul_calls h1 h2 gx1 gx2 hv gxf w
  have im := mul_In hv gxf
  have rm := mul_Rt hv gxf
  simp only [hm] at cm im rm
  have HM := Lib.hid hm
  have CM := Lib.hid cm
  have IM := Lib.hid im
  have RM := Lib.hid rm
  clear hm cm im rm
  have hB := cb_start w vn vd x y
  have v0 : ((((w.alloc (.cells #[.int .i64 vn, .int .i64 vd] 23)).alloc (.cells #[.string x.name, .int .i64 x.d0, .int .i64 x.d1, .int .i64 x.d2, .int .i64 x.d3, .int .i64 x.fn, .int .i64 x.fd, .int .i64 x.on, .int .i64 x.od, .int .i64 x.code] 48)).alloc (.cells #[.string y.name, .int .i64 y.d0, .int .i64 y.d1, .int .i64 y.d2, .int .i64 y.d3, .int .i64 y.fn, .int .i64 y.fd, .int .i64 y.on, .int .i64 y.od, .int .i64 y.code] 48)).alloc (.cells #[.int .i64 0, .int .i64 0] 23)).cell? ⟨w.heap.size, 0, none⟩ = some (.int .i64 vn) := blk_cell hB.b.b1 0
  have v1 : ((((w.alloc (.cells #[.int .i64 vn, .int .i64 vd] 23)).alloc (.cells #[.string x.name, .int .i64 x.d0, .int .i64 x.d1, .int .i64 x.d2, .int .i64 x.d3, .int .i64 x.fn, .int .i64 x.fd, .int .i64 x.on, .int .i64 x.od, .int .i64 x.code] 48)).alloc (.cells #[.string y.name, .int .i64 y.d0, .int .i64 y.d1, .int .i64 y.d2, .int .i64 y.d3, .int .i64 y.fn, .int .i64 y.fd, .int .i64 y.on, .int .i64 y.od, .int .i64 y.code] 48)).alloc (.cells #[.int .i64 0, .int .i64 0] 23)).cell? ⟨w.heap.size, 1, none⟩ = some (.int .i64 vd) := blk_cell hB.b.b1 1
  have x0 : ((((w.alloc (.cells #[.int .i64 vn, .int .i64 vd] 23)).alloc (.cells #[.string x.name, .int .i64 x.d0, .int .i64 x.d1, .int .i64 x.d2, .int .i64 x.d3, .int .i64 x.fn, .int .i64 x.fd, .int .i64 x.on, .int .i64 x.od, .int .i64 x.code] 48)).alloc (.cells #[.string y.name, .int .i64 y.d0, .int .i64 y.d1, .int .i64 y.d2, .int .i64 y.d3, .int .i64 y.fn, .int .i64 y.fd, .int .i64 y.on, .int .i64 y.od, .int .i64 y.code] 48)).alloc (.cells #[.int .i64 0, .int .i64 0] 23)).cell? ⟨w.heap.size + 1, 0, none⟩ = some (.string x.name) := blk_cell hB.b.b2 0
  have x5 : ((((w.alloc (.cells #[.int .i64 vn, .int .i64 vd] 23)).alloc (.cells #[.string x.name, .int .i64 x.d0, .int .i64 x.d1, .int .i64 x.d2, .int .i64 x.d3, .int .i64 x.fn, .int .i64 x.fd, .int .i64 x.on, .int .i64 x.od, .int .i64 x.code] 48)).alloc (.cells #[.string y.name, .int .i64 y.d0, .int .i64 y.d1, .int .i64 y.d2, .int .i64 y.d3, .int .i64 y.fn, .int .i64 y.fd, .int .i64 y.on, .int .i64 y.od, .int .i64 y.code] 48)).alloc (.cells #[.int .i64 0, .int .i64 0] 23)).cell? ⟨w.heap.size + 1, 5, none⟩ = some (.int .i64 x.fn) := blk_cell hB.b.b2 5
  have x6 : ((((w.alloc (.cells #[.int .i64 vn, .int .i64 vd] 23)).alloc (.cells #[.string x.name, .int .i64 x.d0, .int .i64 x.d1, .int .i64 x.d2, .int .i64 x.d3, .int .i64 x.fn, .int .i64 x.fd, .int .i64 x.on, .int .i64 x.od, .int .i64 x.code] 48)).alloc (.cells #[.string y.name, .int .i64 y.d0, .int .i64 y.d1, .int .i64 y.d2, .int .i64 y.d3, .int .i64 y.fn, .int .i64 y.fd, .int .i64 y.on, .int .i64 y.od, .int .i64 y.code] 48)).alloc (.cells #[.int .i64 0, .int .i64 0] 23)).cell? ⟨w.heap.size + 1, 6, none⟩ = some (.int .i64 x.fd) := blk_cell hB.b.b2 6
  have x7 : ((((w.alloc (.cells #[.int .i64 vn, .int .i64 vd] 23)).alloc (.cells #[.string x.name, .int .i64 x.d0, .int .i64 x.d1, .int .i64 x.d2, .int .i64 x.d3, .int .i64 x.fn, .int .i64 x.fd, .int .i64 x.on, .int .i64 x.od, .int .i64 x.code] 48)).alloc (.cells #[.string y.name, .int .i64 y.d0, .int .i64 y.d1, .int .i64 y.d2, .int .i64 y.d3, .int .i64 y.fn, .int .i64 y.fd, .int .i64 y.on, .int .i64 y.od, .int .i64 y.code] 48)).alloc (.cells #[.int .i64 0, .int .i64 0] 23)).cell? ⟨w.heap.size + 1, 7, none⟩ = some (.int .i64 x.on) := blk_cell hB.b.b2 7
  have x8 : ((((w.alloc (.cells #[.int .i64 vn, .int .i64 vd] 23)).alloc (.cells #[.string x.name, .int .i64 x.d0, .int .i64 x.d1, .int .i64 x.d2, .int .i64 x.d3, .int .i64 x.fn, .int .i64 x.fd, .int .i64 x.on, .int .i64 x.od, .int .i64 x.code] 48)).alloc (.cells #[.string y.name, .int .i64 y.d0, .int .i64 y.d1, .int .i64 y.d2, .int .i64 y.d3, .int .i64 y.fn, .int .i64 y.fd, .int .i64 y.on, .int .i64 y.od, .int .i64 y.code] 48)).alloc (.cells #[.int .i64 0, .int .i64 0] 23)).cell? ⟨w.heap.size + 1, 8, none⟩ = some (.int .i64 x.od) := blk_cell hB.b.b2 8
  have y0 : ((((w.alloc (.cells #[.int .i64 vn, .int .i64 vd] 23)).alloc (.cells #[.string x.name, .int .i64 x.d0, .int .i64 x.d1, .int .i64 x.d2, .int .i64 x.d3, .int .i64 x.fn, .int .i64 x.fd, .int .i64 x.on, .int .i64 x.od, .int .i64 x.code] 48)).alloc (.cells #[.string y.name, .int .i64 y.d0, .int .i64 y.d1, .int .i64 y.d2, .int .i64 y.d3, .int .i64 y.fn, .int .i64 y.fd, .int .i64 y.on, .int .i64 y.od, .int .i64 y.code] 48)).alloc (.cells #[.int .i64 0, .int .i64 0] 23)).cell? ⟨w.heap.size + 1 + 1, 0, none⟩ = some (.string y.name) := blk_cell hB.b.b3 0
  have y5 : ((((w.alloc (.cells #[.int .i64 vn, .int .i64 vd] 23)).alloc (.cells #[.string x.name, .int .i64 x.d0, .int .i64 x.d1, .int .i64 x.d2, .int .i64 x.d3, .int .i64 x.fn, .int .i64 x.fd, .int .i64 x.on, .int .i64 x.od, .int .i64 x.code] 48)).alloc (.cells #[.string y.name, .int .i64 y.d0, .int .i64 y.d1, .int .i64 y.d2, .int .i64 y.d3, .int .i64 y.fn, .int .i64 y.fd, .int .i64 y.on, .int .i64 y.od, .int .i64 y.code] 48)).alloc (.cells #[.int .i64 0, .int .i64 0] 23)).cell? ⟨w.heap.size + 1 + 1, 5, none⟩ = some (.int .i64 y.fn) := blk_cell hB.b.b3 5
  have y6 : ((((w.alloc (.cells #[.int .i64 vn, .int .i64 vd] 23)).alloc (.cells #[.string x.name, .int .i64 x.d0, .int .i64 x.d1, .int .i64 x.d2, .int .i64 x.d3, .int .i64 x.fn, .int .i64 x.fd, .int .i64 x.on, .int .i64 x.od, .int .i64 x.code] 48)).alloc (.cells #[.string y.name, .int .i64 y.d0, .int .i64 y.d1, .int .i64 y.d2, .int .i64 y.d3, .int .i64 y.fn, .int .i64 y.fd, .int .i64 y.on, .int .i64 y.od, .int .i64 y.code] 48)).alloc (.cells #[.int .i64 0, .int .i64 0] 23)).cell? ⟨w.heap.size + 1 + 1, 6, none⟩ = some (.int .i64 y.fd) := blk_cell hB.b.b3 6
  have y7 : ((((w.alloc (.cells #[.int .i64 vn, .int .i64 vd] 23)).alloc (.cells #[.string x.name, .int .i64 x.d0, .int .i64 x.d1, .int .i64 x.d2, .int .i64 x.d3, .int .i64 x.fn, .int .i64 x.fd, .int .i64 x.on, .int .i64 x.od, .int .i64 x.code] 48)).alloc (.cells #[.string y.name, .int .i64 y.d0, .int .i64 y.d1, .int .i64 y.d2, .int .i64 y.d3, .int .i64 y.fn, .int .i64 y.fd, .int .i64 y.on, .int .i64 y.od, .int .i64 y.code] 48)).alloc (.cells #[.int .i64 0, .int .i64 0] 23)).cell? ⟨w.heap.size + 1 + 1, 7, none⟩ = some (.int .i64 y.on) := blk_cell hB.b.b3 7
  have y8 : ((((w.alloc (.cells #[.int .i64 vn, .int .i64 vd] 23)).alloc (.cells #[.string x.name, .int .i64 x.d0, .int .i64 x.d1, .int .i64 x.d2, .int .i64 x.d3, .int .i64 x.fn, .int .i64 x.fd, .int .i64 x.on, .int .i64 x.od, .int .i64 x.code] 48)).alloc (.cells #[.string y.name, .int .i64 y.d0, .int .i64 y.d1, .int .i64 y.d2, .int .i64 y.d3, .int .i64 y.fn, .int .i64 y.fd, .int .i64 y.on, .int .i64 y.od, .int .i64 y.code] 48)).alloc (.cells #[.int .i64 0, .int .i64 0] 23)).cell? ⟨w.heap.size + 1 + 1, 8, none⟩ = some (.int .i64 y.od) := blk_cell hB.b.b3 8
  go_enter Try.func31, Try.ntmps31
  go_wp2_with fail
  clear v0 v1 x0 x5 x6 x7 x8 y0 y5 y6 y7 y8
  cases M with
  | none =>
    have cc := CM.out
    simp only [ansB, toldB] at cc
    refine (cc _).mono ?_
    rintro e w1 ⟨rfl, hb_⟩
    clear cc
    replace hB := (hB.step hb_).step (below_alloc (Below.refl _ _) (.cells #[.int .i64 0, .int .i64 0] 23))
    have hx_ := hB.k
    have d_0 : (w1.alloc (.cells #[.int .i64 0, .int .i64 0] 23)).cell? ⟨w.heap.size + 1 + 1 + 1, 0, none⟩ = some (.int .i64 0) := blk_cell hx_ 0
    have df_0 : (w1.alloc (.cells #[.int .i64 0, .int .i64 0] 23)).frozen? ⟨w.heap.size + 1 + 1 + 1, 0, none⟩ = false := blk_frozen hx_ 0
    have d_1 : (w1.alloc (.cells #[.int .i64 0, .int .i64 0] 23)).cell? ⟨w.heap.size + 1 + 1 + 1, 1, none⟩ = some (.int .i64 0) := blk_cell hx_ 1
    have df_1 : (w1.alloc (.cells #[.int .i64 0, .int .i64 0] 23)).frozen? ⟨w.heap.size + 1 + 1 + 1, 1, none⟩ = false := blk_frozen hx_ 1
    go_wp2_with fail
    have k_ := (blk_set (blk_set hx_ 0 (.int .i64 0)) 1 (.int .i64 0))
    have hB_ := (Below.setCell (Below.setCell hB.be (p := ⟨w.heap.size + 1 + 1 + 1, 0, none⟩) ((by show w.heap.size ≤ w.heap.size + 1 + 1 + 1; omega)) (.int .i64 0)) (p := ⟨w.heap.size + 1 + 1 + 1, 1, none⟩) ((by show w.heap.size ≤ w.heap.size + 1 + 1 + 1; omega)) (.int .i64 0))
    obtain ⟨w_, hw_⟩ : ∃ w_, w_ = (World.setCell (World.setCell (w1.alloc (.cells #[.int .i64 0, .int .i64 0] 23)) ⟨w.heap.size + 1 + 1 + 1, 0, none⟩ (.int .i64 0)) ⟨w.heap.size + 1 + 1 + 1, 1, none⟩ (.int .i64 0)) := ⟨_, rfl⟩
    rw [← hw_] at k_ hB_
    try rw [← hw_]
    clear hw_
    have s_0 : w_.cell? ⟨w.heap.size + 1 + 1 + 1, 0, none⟩ = some (.int .i64 0) := blk_cell k_ 0
    have s_1 : w_.cell? ⟨w.heap.size + 1 + 1 + 1, 1, none⟩ = some (.int .i64 0) := blk_cell k_ 1
    refine bodyPost_ret (by simp [results, Try.results31, go_sem, s_0, s_1]; try rfl) rfl ?_
    rw [convB_1 HS.out HM.out]
    exact ⟨rfl, hB_⟩
  | some p =>
    obtain ⟨p1, p2⟩ := p
    have cc := CM.out
    have ii := IM.out _ rfl
    have rr := RM.out _ rfl
    simp only [ansB, toldB] at cc
    dsimp only at ii rr
    refine (cc _).mono ?_
    rintro e w1 ⟨rfl, hb_⟩
    clear cc
    have kx := blk_new w1 (.cells #[.int .i64 p1, .int .i64 p2] 23)
    replace hB := (hB.step hb_).step (below_alloc (Below.refl _ _) (.cells #[.int .i64 p1, .int .i64 p2] 23))
    obtain ⟨M2, hm⟩ : ∃ M, addR p1 p2 x.on x.od = M := ⟨_, rfl⟩
    have cm := fun w => refadd_calls ii.1 ii.2 gx3 gx4 rr gxo w
    have im := add_In rr gxo
    have rm := add_Rt rr gxo
    simp only [hm] at cm im rm
    have HM2 := Lib.hid hm
    have CM2 := Lib.hid cm
    have IM2 := Lib.hid im
    have RM2 := Lib.hid rm
    clear hm cm im rm ii rr
    have v0 : (w1.alloc (.cells #[.int .i64 p1, .int .i64 p2] 23)).cell? ⟨w.heap.size, 0, none⟩ = some (.int .i64 vn) := blk_cell hB.b.b1 0
    have v1 : (w1.alloc (.cells #[.int .i64 p1, .int .i64 p2] 23)).cell? ⟨w.heap.size, 1, none⟩ = some (.int .i64 vd) := blk_cell hB.b.b1 1
    have x0 : (w1.alloc (.cells #[.int .i64 p1, .int .i64 p2] 23)).cell? ⟨w.heap.size + 1, 0, none⟩ = some (.string x.name) := blk_cell hB.b.b2 0
    have x5 : (w1.alloc (.cells #[.int .i64 p1, .int .i64 p2] 23)).cell? ⟨w.heap.size + 1, 5, none⟩ = some (.int .i64 x.fn) := blk_cell hB.b.b2 5
    have x6 : (w1.alloc (.cells #[.int .i64 p1, .int .i64 p2] 23)).cell? ⟨w.heap.size + 1, 6, none⟩ = some (.int .i64 x.fd) := blk_cell hB.b.b2 6
    have x7 : (w1.alloc (.cells #[.int .i64 p1, .int .i64 p2] 23)).cell? ⟨w.heap.size + 1, 7, none⟩ = some (.int .i64 x.on) := blk_cell hB.b.b2 7
    have x8 : (w1.alloc (.cells #[.int .i64 p1, .int .i64 p2] 23)).cell? ⟨w.heap.size + 1, 8, none⟩ = some (.int .i64 x.od) := blk_cell hB.b.b2 8
    have y0 : (w1.alloc (.cells #[.int .i64 p1, .int .i64 p2] 23)).cell? ⟨w.heap.size + 1 + 1, 0, none⟩ = some (.string y.name) := blk_cell hB.b.b3 0
    have y5 : (w1.alloc (.cells #[.int .i64 p1, .int .i64 p2] 23)).cell? ⟨w.heap.size + 1 + 1, 5, none⟩ = some (.int .i64 y.fn) := blk_cell hB.b.b3 5
    have y6 : (w1.alloc (.cells #[.int .i64 p1, .int .i64 p2] 23)).cell? ⟨w.heap.size + 1 + 1, 6, none⟩ = some (.int .i64 y.fd) := blk_cell hB.b.b3 6
    have y7 : (w1.alloc (.cells #[.int .i64 p1, .int .i64 p2] 23)).cell? ⟨w.heap.size + 1 + 1, 7, none⟩ = some (.int .i64 y.on) := blk_cell hB.b.b3 7
    have y8 : (w1.alloc (.cells #[.int .i64 p1, .int .i64 p2] 23)).cell? ⟨w.heap.size + 1 + 1, 8, none⟩ = some (.int .i64 y.od) := blk_cell hB.b.b3 8
    have c0 : (w1.alloc (.cells #[.int .i64 p1, .int .i64 p2] 23)).cell? ⟨w1.heap.size, 0, none⟩ = some (.int .i64 p1) := blk_cell kx 0
    have c1 : (w1.alloc (.cells #[.int .i64 p1, .int .i64 p2] 23)).cell? ⟨w1.heap.size, 1, none⟩ = some (.int .i64 p2) := blk_cell kx 1
    clear kx hb_
    go_wp2_with fail
    clear v0 v1 x0 x5 x6 x7 x8 y0 y5 y6 y7 y8 c0 c1
    cases M2 with
    | none =>
      have cc := CM2.out
      simp only [ansB, toldB] at cc
      refine (cc _).mono ?_
      rintro e w2 ⟨rfl, hb_⟩
      clear cc
      replace hB := (hB.step hb_).step (below_alloc (Below.refl _ _) (.cells #[.int .i64 0, .int .i64 0] 23))
      have hx_ := hB.k
      have d_0 : (w2.alloc (.cells #[.int .i64 0, .int .i64 0] 23)).cell? ⟨w.heap.size + 1 + 1 + 1, 0, none⟩ = some (.int .i64 0) := blk_cell hx_ 0
      have df_0 : (w2.alloc (.cells #[.int .i64 0, .int .i64 0] 23)).frozen? ⟨w.heap.size + 1 + 1 + 1, 0, none⟩ = false := blk_frozen hx_ 0
      have d_1 : (w2.alloc (.cells #[.int .i64 0, .int .i64 0] 23)).cell? ⟨w.heap.size + 1 + 1 + 1, 1, none⟩ = some (.int .i64 0) := blk_cell hx_ 1
      have df_1 : (w2.alloc (.cells #[.int .i64 0, .int .i64 0] 23)).frozen? ⟨w.heap.size + 1 + 1 + 1, 1, none⟩ = false := blk_frozen hx_ 1
      go_wp2_with fail
      have k_ := (blk_set (blk_set hx_ 0 (.int .i64 0)) 1 (.int .i64 0))
      have hB_ := (Below.setCell (Below.setCell hB.be (p := ⟨w.heap.size + 1 + 1 + 1, 0, none⟩) ((by show w.heap.size ≤ w.heap.size + 1 + 1 + 1; omega)) (.int .i64 0)) (p := ⟨w.heap.size + 1 + 1 + 1, 1, none⟩) ((by show w.heap.size ≤ w.heap.size + 1 + 1 + 1; omega)) (.int .i64 0))
      obtain ⟨w_, hw_⟩ : ∃ w_, w_ = (World.setCell (World.setCell (w2.alloc (.cells #[.int .i64 0, .int .i64 0] 23)) ⟨w.heap.size + 1 + 1 + 1, 0, none⟩ (.int .i64 0)) ⟨w.heap.size + 1 + 1 + 1, 1, none⟩ (.int .i64 0)) := ⟨_, rfl⟩
      rw [← hw_] at k_ hB_
      try rw [← hw_]
      clear hw_
      have s_0 : w_.cell? ⟨w.heap.size + 1 + 1 + 1, 0, none⟩ = some (.int .i64 0) := blk_cell k_ 0
      have s_1 : w_.cell? ⟨w.heap.size + 1 + 1 + 1, 1, none⟩ = some (.int .i64 0) := blk_cell k_ 1
      refine bodyPost_ret (by simp [results, Try.results31, go_sem, s_0, s_1]; try rfl) rfl ?_
      rw [convB_2 HS.out HM.out HM2.out]
      exact ⟨rfl, hB_⟩
    | some p =>
      obtain ⟨q1, q2⟩ := p
      have cc := CM2.out
      have ii := IM2.out _ rfl
      have rr := RM2.out _ rfl
      simp only [ansB, toldB] at cc
      dsimp only at ii rr
      refine (cc _).mono ?_
      rintro e w2 ⟨rfl, hb_⟩
      clear cc
      have kx := blk_new w2 (.cells #[.int .i64 q1, .int .i64 q2] 23)
      replace hB := (hB.step hb_).step (below_alloc (Below.refl _ _) (.cells #[.int .i64 q1, .int .i64 q2] 23))
      obtain ⟨M3, hm⟩ : ∃ M, addR q1 q2 (-y.on) y.od = M := ⟨_, rfl⟩
      have cm := fun w => refadd_calls ii.1 ii.2 gy5 gy4 rr gyn w
      have im := add_In rr gyn
      have rm := add_Rt rr gyn
      simp only [hm] at cm im rm
      have HM3 := Lib.hid hm
      have CM3 := Lib.hid cm
      have IM3 := Lib.hid im
      have RM3 := Lib.hid rm
      clear hm cm im rm ii rr
      have v0 : (w2.alloc (.cells #[.int .i64 q1, .int .i64 q2] 23)).cell? ⟨w.heap.size, 0, none⟩ = some (.int .i64 vn) := blk_cell hB.b.b1 0
      have v1 : (w2.alloc (.cells #[.int .i64 q1, .int .i64 q2] 23)).cell? ⟨w.heap.size, 1, none⟩ = some (.int .i64 vd) := blk_cell hB.b.b1 1
      have x0 : (w2.alloc (.cells #[.int .i64 q1, .int .i64 q2] 23)).cell? ⟨w.heap.size + 1, 0, none⟩ = some (.string x.name) := blk_cell hB.b.b2 0
      have x5 : (w2.alloc (.cells #[.int .i64 q1, .int .i64 q2] 23)).cell? ⟨w.heap.size + 1, 5, none⟩ = some (.int .i64 x.fn) := blk_cell hB.b.b2 5
      have x6 : (w2.alloc (.cells #[.int .i64 q1, .int .i64 q2] 23)).cell? ⟨w.heap.size + 1, 6, none⟩ = some (.int .i64 x.fd) := blk_cell hB.b.b2 6
      have x7 : (w2.alloc (.cells #[.int .i64 q1, .int .i64 q2] 23)).cell? ⟨w.heap.size + 1, 7, none⟩ = some (.int .i64 x.on) := blk_cell hB.b.b2 7
      have x8 : (w2.alloc (.cells #[.int .i64 q1, .int .i64 q2] 23)).cell? ⟨w.heap.size + 1, 8, none⟩ = some (.int .i64 x.od) := blk_cell hB.b.b2 8
      have y0 : (w2.alloc (.cells #[.int .i64 q1, .int .i64 q2] 23)).cell? ⟨w.heap.size + 1 + 1, 0, none⟩ = some (.string y.name) := blk_cell hB.b.b3 0
      have y5 : (w2.alloc (.cells #[.int .i64 q1, .int .i64 q2] 23)).cell? ⟨w.heap.size + 1 + 1, 5, none⟩ = some (.int .i64 y.fn) := blk_cell hB.b.b3 5
      have y6 : (w2.alloc (.cells #[.int .i64 q1, .int .i64 q2] 23)).cell? ⟨w.heap.size + 1 + 1, 6, none⟩ = some (.int .i64 y.fd) := blk_cell hB.b.b3 6
      have y7 : (w2.alloc (.cells #[.int .i64 q1, .int .i64 q2] 23)).cell? ⟨w.heap.size + 1 + 1, 7, none⟩ = some (.int .i64 y.on) := blk_cell hB.b.b3 7
      have y8 : (w2.alloc (.cells #[.int .i64 q1, .int .i64 q2] 23)).cell? ⟨w.heap.size + 1 + 1, 8, none⟩ = some (.int .i64 y.od) := blk_cell hB.b.b3 8
      have c0 : (w2.alloc (.cells #[.int .i64 q1, .int .i64 q2] 23)).cell? ⟨w2.heap.size, 0, none⟩ = some (.int .i64 q1) := blk_cell kx 0
      have c1 : (w2.alloc (.cells #[.int .i64 q1, .int .i64 q2] 23)).cell? ⟨w2.heap.size, 1, none⟩ = some (.int .i64 q2) := blk_cell kx 1
      clear kx hb_
      go_wp2_with fail
      clear v0 v1 x0 x5 x6 x7 x8 y0 y5 y6 y7 y8 c0 c1
      cases M3 with
      | none =>
        have cc := CM3.out
        simp only [ansB, toldB] at cc
        refine (cc _).mono ?_
        rintro e w3 ⟨rfl, hb_⟩
        clear cc
        replace hB := (hB.step hb_).step (below_alloc (Below.refl _ _) (.cells #[.int .i64 0, .int .i64 0] 23))
        have hx_ := hB.k
        have d_0 : (w3.alloc (.cells #[.int .i64 0, .int .i64 0] 23)).cell? ⟨w.heap.size + 1 + 1 + 1, 0, none⟩ = some (.int .i64 0) := blk_cell hx_ 0
        have df_0 : (w3.alloc (.cells #[.int .i64 0, .int .i64 0] 23)).frozen? ⟨w.heap.size + 1 + 1 + 1, 0, none⟩ = false := blk_frozen hx_ 0
        have d_1 : (w3.alloc (.cells #[.int .i64 0, .int .i64 0] 23)).cell? ⟨w.heap.size + 1 + 1 + 1, 1, none⟩ = some (.int .i64 0) := blk_cell hx_ 1
        have df_1 : (w3.alloc (.cells #[.int .i64 0, .int .i64 0] 23)).frozen? ⟨w.heap.size + 1 + 1 + 1, 1, none⟩ = false := blk_frozen hx_ 1
        go_wp2_with fail
        have k_ := (blk_set (blk_set hx_ 0 (.int .i64 0)) 1 (.int .i64 0))
        have hB_ := (Below.setCell (Below.setCell hB.be (p := ⟨w.heap.size + 1 + 1 + 1, 0, none⟩) ((by show w.heap.size ≤ w.heap.size + 1 + 1 + 1; omega)) (.int .i64 0)) (p := ⟨w.heap.size + 1 + 1 + 1, 1, none⟩) ((by show w.heap.size ≤ w.heap.size + 1 + 1 + 1; omega)) (.int .i64 0))
        obtain ⟨w_, hw_⟩ : ∃ w_, w_ = (World.setCell (World.setCell (w3.alloc (.cells #[.int .i64 0, .int .i64 0] 23)) ⟨w.heap.size + 1 + 1 + 1, 0, none⟩ (.int .i64 0)) ⟨w.heap.size + 1 + 1 + 1, 1, none⟩ (.int .i64 0)) := ⟨_, rfl⟩
        rw [← hw_] at k_ hB_
        try rw [← hw_]
        clear hw_
        have s_0 : w_.cell? ⟨w.heap.size + 1 + 1 + 1, 0, none⟩ = some (.int .i64 0) := blk_cell k_ 0
        have s_1 : w_.cell? ⟨w.heap.size + 1 + 1 + 1, 1, none⟩ = some (.int .i64 0) := blk_cell k_ 1
        refine bodyPost_ret (by simp [results, Try.results31, go_sem, s_0, s_1]; try rfl) rfl ?_
        rw [convB_3 HS.out HM.out HM2.out HM3.out]
        exact ⟨rfl, hB_⟩
      | some p =>
        obtain ⟨s1, s2⟩ := p
        have cc := CM3.out
        have ii := IM3.out _ rfl
        have rr := RM3.out _ rfl
        simp only [ansB, toldB] at cc
        dsimp only at ii rr
        refine (cc _).mono ?_
        rintro e w3 ⟨rfl, hb_⟩
        clear cc
        have kx := blk_new w3 (.cells #[.int .i64 s1, .int .i64 s2] 23)
        replace hB := (hB.step hb_).step (below_alloc (Below.refl _ _) (.cells #[.int .i64 s1, .int .i64 s2] 23))
        obtain ⟨M4, hm⟩ : ∃ M, mulR s1 s2 y.fd y.fn = M := ⟨_, rfl⟩
        have cm := fun w => refmul_calls ii.1 ii.2 gy2 gy1 rr gyi w
        have im := mul_In rr gyi
        have rm := mul_Rt rr gyi
        simp only [hm] at cm im rm
        have HM4 := Lib.hid hm
        have CM4 := Lib.hid cm
        have IM4 := Lib.hid im
        have RM4 := Lib.hid rm
        clear hm cm im rm ii rr
        have v0 : (w3.alloc (.cells #[.int .i64 s1, .int .i64 s2] 23)).cell? ⟨w.heap.size, 0, none⟩ = some (.int .i64 vn) := blk_cell hB.b.b1 0
        have v1 : (w3.alloc (.cells #[.int .i64 s1, .int .i64 s2] 23)).cell? ⟨w.heap.size, 1, none⟩ = some (.int .i64 vd) := blk_cell hB.b.b1 1
        have x0 : (w3.alloc (.cells #[.int .i64 s1, .int .i64 s2] 23)).cell? ⟨w.heap.size + 1, 0, none⟩ = some (.string x.name) := blk_cell hB.b.b2 0
        have x5 : (w3.alloc (.cells #[.int .i64 s1, .int .i64 s2] 23)).cell? ⟨w.heap.size + 1, 5, none⟩ = some (.int .i64 x.fn) := blk_cell hB.b.b2 5
        have x6 : (w3.alloc (.cells #[.int .i64 s1, .int .i64 s2] 23)).cell? ⟨w.heap.size + 1, 6, none⟩ = some (.int .i64 x.fd) := blk_cell hB.b.b2 6
        have x7 : (w3.alloc (.cells #[.int .i64 s1, .int .i64 s2] 23)).cell? ⟨w.heap.size + 1, 7, none⟩ = some (.int .i64 x.on) := blk_cell hB.b.b2 7
        have x8 : (w3.alloc (.cells #[.int .i64 s1, .int .i64 s2] 23)).cell? ⟨w.heap.size + 1, 8, none⟩ = some (.int .i64 x.od) := blk_cell hB.b.b2 8
        have y0 : (w3.alloc (.cells #[.int .i64 s1, .int .i64 s2] 23)).cell? ⟨w.heap.size + 1 + 1, 0, none⟩ = some (.string y.name) := blk_cell hB.b.b3 0
        have y5 : (w3.alloc (.cells #[.int .i64 s1, .int .i64 s2] 23)).cell? ⟨w.heap.size + 1 + 1, 5, none⟩ = some (.int .i64 y.fn) := blk_cell hB.b.b3 5
        have y6 : (w3.alloc (.cells #[.int .i64 s1, .int .i64 s2] 23)).cell? ⟨w.heap.size + 1 + 1, 6, none⟩ = some (.int .i64 y.fd) := blk_cell hB.b.b3 6
        have y7 : (w3.alloc (.cells #[.int .i64 s1, .int .i64 s2] 23)).cell? ⟨w.heap.size + 1 + 1, 7, none⟩ = some (.int .i64 y.on) := blk_cell hB.b.b3 7
        have y8 : (w3.alloc (.cells #[.int .i64 s1, .int .i64 s2] 23)).cell? ⟨w.heap.size + 1 + 1, 8, none⟩ = some (.int .i64 y.od) := blk_cell hB.b.b3 8
        have c0 : (w3.alloc (.cells #[.int .i64 s1, .int .i64 s2] 23)).cell? ⟨w3.heap.size, 0, none⟩ = some (.int .i64 s1) := blk_cell kx 0
        have c1 : (w3.alloc (.cells #[.int .i64 s1, .int .i64 s2] 23)).cell? ⟨w3.heap.size, 1, none⟩ = some (.int .i64 s2) := blk_cell kx 1
        clear kx hb_
        go_wp2_with fail
        clear v0 v1 x0 x5 x6 x7 x8 y0 y5 y6 y7 y8 c0 c1
        obtain ⟨r1, r2, r3, hr⟩ : ∃ r1 r2 r3, toldB M4 = (r1, r2, r3) := ⟨_, _, _, rfl⟩
        have cc := CM4.out
        simp only [ansB, hr] at cc
        have HR := Lib.hid hr
        clear hr
        refine (cc _).mono ?_
        rintro e w4 ⟨rfl, hb_⟩
        clear cc
        replace hB := hB.step hb_
        have hx_ := hB.k
        have d_0 : w4.cell? ⟨w.heap.size + 1 + 1 + 1, 0, none⟩ = some (.int .i64 0) := blk_cell hx_ 0
        have df_0 : w4.frozen? ⟨w.heap.size + 1 + 1 + 1, 0, none⟩ = false := blk_frozen hx_ 0
        have d_1 : w4.cell? ⟨w.heap.size + 1 + 1 + 1, 1, none⟩ = some (.int .i64 0) := blk_cell hx_ 1
        have df_1 : w4.frozen? ⟨w.heap.size + 1 + 1 + 1, 1, none⟩ = false := blk_frozen hx_ 1
        go_wp2_with fail
        have k_ := (blk_set (blk_set hx_ 0 (.int .i64 r1)) 1 (.int .i64 r2))
        have hB_ := (Below.setCell (Below.setCell hB.be (p := ⟨w.heap.size + 1 + 1 + 1, 0, none⟩) ((by show w.heap.size ≤ w.heap.size + 1 + 1 + 1; omega)) (.int .i64 r1)) (p := ⟨w.heap.size + 1 + 1 + 1, 1, none⟩) ((by show w.heap.size ≤ w.heap.size + 1 + 1 + 1; omega)) (.int .i64 r2))
        obtain ⟨w_, hw_⟩ : ∃ w_, w_ = (World.setCell (World.setCell w4 ⟨w.heap.size + 1 + 1 + 1, 0, none⟩ (.int .i64 r1)) ⟨w.heap.size + 1 + 1 + 1, 1, none⟩ (.int .i64 r2)) := ⟨_, rfl⟩
        rw [← hw_] at k_ hB_
        try rw [← hw_]
        clear hw_
        have s_0 : w_.cell? ⟨w.heap.size + 1 + 1 + 1, 0, none⟩ = some (.int .i64 r1) := blk_cell k_ 0
        have s_1 : w_.cell? ⟨w.heap.size + 1 + 1 + 1, 1, none⟩ = some (.int .i64 r2) := blk_cell k_ 1
        refine bodyPost_ret (by simp [results, Try.results31, go_sem, s_0, s_1]; try rfl) rfl ?_
        rw [convB_4 HS.out HM.out HM2.out HM3.out, HM4.out, HR.out]
        exact ⟨rfl, hB_⟩

/-- The document's conversion. -/
theorem refconv_calls (x y : URow) (gx : x.good) (gy : y.good) {vn vd : Int} (h1 : I64 vn) (h2 : I64 vd) (hv : Rt vn vd) (w : World) : Calls Try.prog 31 #[.agg #[.int .i64 vn, .int .i64 vd], .agg #[.string x.name, .int .i64 x.d0, .int .i64 x.d1, .int .i64 x.d2, .int .i64 x.d3, .int .i64 x.fn, .int .i64 x.fd, .int .i64 x.on, .int .i64 x.od, .int .i64 x.code], .agg #[.string y.name, .int .i64 y.d0, .int .i64 y.d1, .int .i64 y.d2, .int .i64 y.d3, .int .i64 y.fn, .int .i64 y.fd, .int .i64 y.on, .int .i64 y.od, .int .i64 y.code]] w fun e w' => e = ansB (toldB (convB x y vn vd)) ∧ Below w.heap.size w w' := by
  by_cases hs : x.name.toList = y.name.toList
  · have e : convB x y vn vd = some (vn, vd) := by unfold convB; rw [if_pos hs]
    rw [e]
    exact rconv_same x y gx gy h1 h2 hv hs w
  · exact rconv_steps x y gx gy h1 h2 hv hs w
end Go.Proofs.Ytcldlfhnmkogeaa.Unit


import Derived.Test.YtcldlfhnmkogeaaUnitMore
import Derived.Test.YtcldlfhnmkogeaaScaleLaw
import Derived.Test.YtcldlfhnmkogeaaRefUnit
/- The law UnitConverts, walked. -/
set_option linter.unusedVariables false
set_option linter.unusedSimpArgs false
namespace Go.Proofs.Ytcldlfhnmkogeaa.UnitConvertsWalk
open Go.RowKit Go.Proofs.YtcldlfhnmkogeaaW.PrintWords Go.Proofs.YtcldlfhnmkogeaaW.PrintLast Go.Proofs.Ytcldlfhnmkogeaa.Nats Go.Proofs.Ytcldlfhnmkogeaa.HeapKit Go.Proofs.Ytcldlfhnmkogeaa.RatPlain Go.Proofs.Ytcldlfhnmkogeaa.Scale Go.Proofs.Ytcldlfhnmkogeaa.RefWalk Go.Proofs.Ytcldlfhnmkogeaa.Unit Go.Proofs.Ytcldlfhnmkogeaa.UnitLaw


/-- The boxes. -/
structure Ct (w wx : World) (vn vd x1 x2 : Int) (p7 p9 p11 : Nat) (u v : URow) : Prop where
  b : B1 w wx (.cells #[.int .i64 vn, .int .i64 vd] 23)
  k7 : wx.heap[p7]? = some (.cells #[.int .i64 x1, .int .i64 x2] 29 (0, 0))
  k9 : wx.heap[p9]? = some (.cells #[.string u.name, .int .i64 u.d0, .int .i64 u.d1, .int .i64 u.d2, .int .i64 u.d3, .int .i64 u.fn, .int .i64 u.fd, .int .i64 u.on, .int .i64 u.od, .int .i64 u.code] 48 (0, 0))
  k11 : wx.heap[p11]? = some (.cells #[.string v.name, .int .i64 v.d0, .int .i64 v.d1, .int .i64 v.d2, .int .i64 v.d3, .int .i64 v.fn, .int .i64 v.fd, .int .i64 v.on, .int .i64 v.od, .int .i64 v.code] 48 (0, 0))
theorem Ct.step {w wx w2 : World} {vn vd x1 x2 : Int} {p7 p9 p11 : Nat} {u v : URow} (h : Ct w wx vn vd x1 x2 p7 p9 p11 u v) (hb : Below wx.heap.size wx w2) : Ct w w2 vn vd x1 x2 p7 p9 p11 u v :=
  ⟨h.b.step hb, blk_below h.k7 hb, blk_below h.k9 hb, blk_below h.k11 hb⟩
/-- What is known ahead. -/
structure Known (a b : ByteArray) (vn vd x1 x2 x3 : Int) (u v : URow) (oa ob : Bool) : Prop where
  missing : oa = false ∨ ob = false → (x1, x2, x3) = ((0, 0, 4) : Int × Int × Int)
  eqs : oa = true → ob = true → ∀ w, (Op.equalIn 10000 46 (.agg #[.int .i64 u.d0, .int .i64 u.d1, .int .i64 u.d2, .int .i64 u.d3]) (.agg #[.int .i64 v.d0, .int .i64 v.d1, .int .i64 v.d2, .int .i64 v.d3])).run Try.prog w = .ok (decide (likeU u v)) w
  unlike : oa = true → ob = true → ¬ likeU u v → (x1, x2, x3) = ((0, 0, 5) : Int × Int × Int)
  wrong : oa = true → ob = true → likeU u v → ¬ Rt vn vd → (x1, x2, x3) = ((0, 0, 1) : Int × Int × Int)
  fine : oa = true → ob = true → likeU u v → Rt vn vd → ∃ M, (∀ w, Calls Try.prog 31 #[.agg #[.int .i64 vn, .int .i64 vd], .agg #[.string u.name, .int .i64 u.d0, .int .i64 u.d1, .int .i64 u.d2, .int .i64 u.d3, .int .i64 u.fn, .int .i64 u.fd, .int .i64 u.on, .int .i64 u.od, .int .i64 u.code], .agg #[.string v.name, .int .i64 v.d0, .int .i64 v.d1, .int .i64 v.d2, .int .i64 v.d3, .int .i64 v.fn, .int .i64 v.fd, .int .i64 v.on, .int .i64 v.od, .int .i64 v.code]] w fun e w' => e = ansB (toldB M) ∧ Below w.heap.size w w') ∧ (x1, x2, x3) = outO M
theorem known (a b : ByteArray) {vn vd x1 x2 x3 : Int} (h1 : I64 vn) (h2 : I64 vd) (h : convR a b vn vd = (x1, x2, x3)) : Known a b vn vd x1 x2 x3 (refRow a) (refRow b) (find a).isSome (find b).isSome := by
  constructor
  · intro hm
    rw [← h]
    unfold convR
    cases hx : find a with
    | none => rfl
    | some x =>
      cases hy : find b with
      | none => rfl
      | some y => rw [hx, hy] at hm; rcases hm with hm | hm <;> cases hm
  · intro ha hb
    obtain ⟨x, hx⟩ := Option.isSome_iff_exists.1 ha
    obtain ⟨y, hy⟩ := Option.isSome_iff_exists.1 hb
    rw [refRow_some hx, refRow_some hy]
    exact (eqU hx hy :)
  · intro ha hb hl
    obtain ⟨x, hx⟩ := Option.isSome_iff_exists.1 ha
    obtain ⟨y, hy⟩ := Option.isSome_iff_exists.1 hb
    rw [refRow_some hx, refRow_some hy] at hl
    rw [← h]
    unfold convR
    rw [hx, hy]
    exact if_neg hl
  · intro ha hb hl hv
    obtain ⟨x, hx⟩ := Option.isSome_iff_exists.1 ha
    obtain ⟨y, hy⟩ := Option.isSome_iff_exists.1 hb
    rw [refRow_some hx, refRow_some hy] at hl
    rw [← h]
    unfold convR
    rw [hx, hy]
    exact (if_pos hl).trans (if_neg hv)
  · intro ha hb hl hv
    obtain ⟨x, hx⟩ := Option.isSome_iff_exists.1 ha
    obtain ⟨y, hy⟩ := Option.isSome_iff_exists.1 hb
    rw [refRow_some hx, refRow_some hy] at hl
    refine ⟨convB (refRow a) (refRow b) vn vd, ?_, ?_⟩
    · have gx := find_good hx
      have gy := find_good hy
      rw [refRow_some hx, refRow_some hy]
      exact fun w => refconv_calls { x with name := a } { y with name := b } gx gy h1 h2 hv w
    · rw [← h]
      exact conv_doc hx hy hl hv

set_option maxRecDepth 100000 in
set_option maxHeartbeats 4000000 in
theorem walk (vn vd : Int) (h1 : I64 vn) (h2 : I64 vd) (a b : ByteArray) (w : World) :
    Calls Try.prog 7 #[.agg #[.int .i64 vn, .int .i64 vd], .string a, .string b] w fun e w' => e = .returned (.bool true) ∧ Below w.heap.size w w' := by
  have hr := fun w => ref_right_calls h1 h2 w
  obtain ⟨rr, er⟩ : ∃ r, decide (Rt vn vd) = r := ⟨_, rfl⟩
  simp only [er] at hr
  obtain ⟨x1, x2, x3, ex, cx, ix1, ix2⟩ := conv_ex (a := a) (b := b) h1 h2
  have hk := known a b h1 h2 ex
  have fa := fun w => reffind_calls a w
  have fb := fun w => reffind_calls b w
  obtain ⟨u, hu⟩ : ∃ u, refRow a = u := ⟨_, rfl⟩
  obtain ⟨v, hv⟩ : ∃ v, refRow b = v := ⟨_, rfl⟩
  obtain ⟨oa, hoa⟩ : ∃ o, (find a).isSome = o := ⟨_, rfl⟩
  obtain ⟨ob, hob⟩ : ∃ o, (find b).isSome = o := ⟨_, rfl⟩
  rw [hu, hv, hoa, hob] at hk
  simp only [hu, hoa, URow.val] at fa
  simp only [hv, hob, URow.val] at fb
  have HR := Lib.hid hr
  have ER := Lib.hid er
  have CX := Lib.hid cx
  have HK := Lib.hid hk
  have FA := Lib.hid fa
  have FB := Lib.hid fb
  clear hr er cx hk fa fb hu hv hoa hob ex
  have hB := b1_start w (.cells #[.int .i64 vn, .int .i64 vd] 23)
  go_enter Try.func7, Try.ntmps7
  go_wp2_with fail
  refine (UnitLaw.awake_calls _).mono ?_
  rintro e w1 ⟨rfl, hb1⟩
  replace hB := hB.step hb1
  clear hb1
  by_cases q0 : ((a.size : Nat) : Int) > 50
  · have t0 : decide (((a.size : Nat) : Int) > 50) = true := decide_eq_true q0
    go_wp2_with fail
    refine (UnitLaw.awake_calls _).mono ?_
    rintro e w9 ⟨rfl, hb9⟩
    replace hB := hB.step hb9
    go_wp2_with fail
    go_ret
    exact ⟨rfl, hB.be⟩
  have t0 : decide (((a.size : Nat) : Int) > 50) = false := decide_eq_false q0
  by_cases q1 : ((b.size : Nat) : Int) > 50
  · have t1 : decide (((b.size : Nat) : Int) > 50) = true := decide_eq_true q1
    go_wp2_with fail
    refine (UnitLaw.awake_calls _).mono ?_
    rintro e w9 ⟨rfl, hb9⟩
    replace hB := hB.step hb9
    go_wp2_with fail
    go_ret
    exact ⟨rfl, hB.be⟩
  have t1 : decide (((b.size : Nat) : Int) > 50) = false := decide_eq_false q1
  have v0 : w1.cell? ⟨w.heap.size, 0, none⟩ = some (.int .i64 vn) := blk_cell hB.b1 0
  have v1 : w1.cell? ⟨w.heap.size, 1, none⟩ = some (.int .i64 vd) := blk_cell hB.b1 1
  go_wp2_with fail
  refine (UnitLaw.of02_calls vn vd _).mono ?_
  rintro e w2 ⟨rfl, hb2⟩
  replace hB := hB.step hb2
  clear hb2 v0 v1
  go_wp2_with fail
  refine (CX.out _).mono ?_
  rintro e w3 ⟨rfl, hb3⟩
  replace hB := hB.step hb3
  clear hb3
  have k7 := blk_new w3 (.cells #[.int .i64 x1, .int .i64 x2] 29)
  replace hB := hB.step (below_alloc (Below.refl _ _) (.cells #[.int .i64 x1, .int .i64 x2] 29))
  go_wp2_with fail
  refine (FA.out _).mono ?_
  rintro e w4 ⟨rfl, hb4⟩
  replace hB := hB.step hb4
  replace k7 := blk_below k7 hb4
  clear hb4
  have k9 := blk_new w4 (.cells #[.string u.name, .int .i64 u.d0, .int .i64 u.d1, .int .i64 u.d2, .int .i64 u.d3, .int .i64 u.fn, .int .i64 u.fd, .int .i64 u.on, .int .i64 u.od, .int .i64 u.code] 48)
  replace k7 := blk_below k7 (below_alloc (Below.refl _ _) (.cells #[.string u.name, .int .i64 u.d0, .int .i64 u.d1, .int .i64 u.d2, .int .i64 u.d3, .int .i64 u.fn, .int .i64 u.fd, .int .i64 u.on, .int .i64 u.od, .int .i64 u.code] 48))
  replace hB := hB.step (below_alloc (Below.refl _ _) (.cells #[.string u.name, .int .i64 u.d0, .int .i64 u.d1, .int .i64 u.d2, .int .i64 u.d3, .int .i64 u.fn, .int .i64 u.fd, .int .i64 u.on, .int .i64 u.od, .int .i64 u.code] 48))
  go_wp2_with fail
  refine (FB.out _).mono ?_
  rintro e w5 ⟨rfl, hb5⟩
  replace hB := hB.step hb5
  replace k7 := blk_below k7 hb5
  replace k9 := blk_below k9 hb5
  clear hb5
  have hC : Ct w (w5.alloc (.cells #[.string v.name, .int .i64 v.d0, .int .i64 v.d1, .int .i64 v.d2, .int .i64 v.d3, .int .i64 v.fn, .int .i64 v.fd, .int .i64 v.on, .int .i64 v.od, .int .i64 v.code] 48)) vn vd x1 x2 w3.heap.size w4.heap.size w5.heap.size u v := ⟨hB.step (below_alloc (Below.refl _ _) _), blk_alloc k7 _, blk_alloc k9 _, blk_new w5 _⟩
  clear hB k7 k9
  have hor : (oa = false ∨ ob = false) ∨ (oa = true ∧ ob = true) := by cases oa <;> cases ob <;> simp
  obtain ⟨p7, hp7⟩ : ∃ p, p = w3.heap.size := ⟨_, rfl⟩
  obtain ⟨p9, hp9⟩ : ∃ p, p = w4.heap.size := ⟨_, rfl⟩
  rw [← hp7, ← hp9] at hC
  rw [← hp7, ← hp9]
  clear hp7 hp9
  rcases hor with hor | ⟨rfl, rfl⟩
  · have hx := HK.out.missing hor
    simp only [Prod.mk.injEq] at hx
    obtain ⟨rfl, rfl, rfl⟩ := hx
    have c0 : (w5.alloc (.cells #[.string v.name, .int .i64 v.d0, .int .i64 v.d1, .int .i64 v.d2, .int .i64 v.d3, .int .i64 v.fn, .int .i64 v.fd, .int .i64 v.on, .int .i64 v.od, .int .i64 v.code] 48)).cell? ⟨p7, 0, none⟩ = some (.int .i64 0) := blk_cell hC.k7 0
    have c1 : (w5.alloc (.cells #[.string v.name, .int .i64 v.d0, .int .i64 v.d1, .int .i64 v.d2, .int .i64 v.d3, .int .i64 v.fn, .int .i64 v.fd, .int .i64 v.on, .int .i64 v.od, .int .i64 v.code] 48)).cell? ⟨p7, 1, none⟩ = some (.int .i64 0) := blk_cell hC.k7 1
    cases oa with
    | false =>
      go_wp2_with fail
      go_ret
      exact ⟨by simp, hC.b.be⟩
    | true =>
      rcases hor with hor | hor
      · cases hor
      · subst hor
        go_wp2_with fail
        go_ret
        exact ⟨by simp, hC.b.be⟩
  · have he := HK.out.eqs rfl rfl
    have c0 : (w5.alloc (.cells #[.string v.name, .int .i64 v.d0, .int .i64 v.d1, .int .i64 v.d2, .int .i64 v.d3, .int .i64 v.fn, .int .i64 v.fd, .int .i64 v.on, .int .i64 v.od, .int .i64 v.code] 48)).cell? ⟨p7, 0, none⟩ = some (.int .i64 x1) := blk_cell hC.k7 0
    have c1 : (w5.alloc (.cells #[.string v.name, .int .i64 v.d0, .int .i64 v.d1, .int .i64 v.d2, .int .i64 v.d3, .int .i64 v.fn, .int .i64 v.fd, .int .i64 v.on, .int .i64 v.od, .int .i64 v.code] 48)).cell? ⟨p7, 1, none⟩ = some (.int .i64 x2) := blk_cell hC.k7 1
    have u0 : (w5.alloc (.cells #[.string v.name, .int .i64 v.d0, .int .i64 v.d1, .int .i64 v.d2, .int .i64 v.d3, .int .i64 v.fn, .int .i64 v.fd, .int .i64 v.on, .int .i64 v.od, .int .i64 v.code] 48)).cell? ⟨p9, 0, none⟩ = some (.string u.name) := blk_cell hC.k9 0
    have u1 : (w5.alloc (.cells #[.string v.name, .int .i64 v.d0, .int .i64 v.d1, .int .i64 v.d2, .int .i64 v.d3, .int .i64 v.fn, .int .i64 v.fd, .int .i64 v.on, .int .i64 v.od, .int .i64 v.code] 48)).cell? ⟨p9, 1, none⟩ = some (.int .i64 u.d0) := blk_cell hC.k9 1
    have u2 : (w5.alloc (.cells #[.string v.name, .int .i64 v.d0, .int .i64 v.d1, .int .i64 v.d2, .int .i64 v.d3, .int .i64 v.fn, .int .i64 v.fd, .int .i64 v.on, .int .i64 v.od, .int .i64 v.code] 48)).cell? ⟨p9, 2, none⟩ = some (.int .i64 u.d1) := blk_cell hC.k9 2
    have u3 : (w5.alloc (.cells #[.string v.name, .int .i64 v.d0, .int .i64 v.d1, .int .i64 v.d2, .int .i64 v.d3, .int .i64 v.fn, .int .i64 v.fd, .int .i64 v.on, .int .i64 v.od, .int .i64 v.code] 48)).cell? ⟨p9, 3, none⟩ = some (.int .i64 u.d2) := blk_cell hC.k9 3
    have u4 : (w5.alloc (.cells #[.string v.name, .int .i64 v.d0, .int .i64 v.d1, .int .i64 v.d2, .int .i64 v.d3, .int .i64 v.fn, .int .i64 v.fd, .int .i64 v.on, .int .i64 v.od, .int .i64 v.code] 48)).cell? ⟨p9, 4, none⟩ = some (.int .i64 u.d3) := blk_cell hC.k9 4
    have u5 : (w5.alloc (.cells #[.string v.name, .int .i64 v.d0, .int .i64 v.d1, .int .i64 v.d2, .int .i64 v.d3, .int .i64 v.fn, .int .i64 v.fd, .int .i64 v.on, .int .i64 v.od, .int .i64 v.code] 48)).cell? ⟨p9, 5, none⟩ = some (.int .i64 u.fn) := blk_cell hC.k9 5
    have u6 : (w5.alloc (.cells #[.string v.name, .int .i64 v.d0, .int .i64 v.d1, .int .i64 v.d2, .int .i64 v.d3, .int .i64 v.fn, .int .i64 v.fd, .int .i64 v.on, .int .i64 v.od, .int .i64 v.code] 48)).cell? ⟨p9, 6, none⟩ = some (.int .i64 u.fd) := blk_cell hC.k9 6
    have u7 : (w5.alloc (.cells #[.string v.name, .int .i64 v.d0, .int .i64 v.d1, .int .i64 v.d2, .int .i64 v.d3, .int .i64 v.fn, .int .i64 v.fd, .int .i64 v.on, .int .i64 v.od, .int .i64 v.code] 48)).cell? ⟨p9, 7, none⟩ = some (.int .i64 u.on) := blk_cell hC.k9 7
    have u8 : (w5.alloc (.cells #[.string v.name, .int .i64 v.d0, .int .i64 v.d1, .int .i64 v.d2, .int .i64 v.d3, .int .i64 v.fn, .int .i64 v.fd, .int .i64 v.on, .int .i64 v.od, .int .i64 v.code] 48)).cell? ⟨p9, 8, none⟩ = some (.int .i64 u.od) := blk_cell hC.k9 8
    have u9 : (w5.alloc (.cells #[.string v.name, .int .i64 v.d0, .int .i64 v.d1, .int .i64 v.d2, .int .i64 v.d3, .int .i64 v.fn, .int .i64 v.fd, .int .i64 v.on, .int .i64 v.od, .int .i64 v.code] 48)).cell? ⟨p9, 9, none⟩ = some (.int .i64 u.code) := blk_cell hC.k9 9
    have z0 : (w5.alloc (.cells #[.string v.name, .int .i64 v.d0, .int .i64 v.d1, .int .i64 v.d2, .int .i64 v.d3, .int .i64 v.fn, .int .i64 v.fd, .int .i64 v.on, .int .i64 v.od, .int .i64 v.code] 48)).cell? ⟨w5.heap.size, 0, none⟩ = some (.string v.name) := blk_cell hC.k11 0
    have z1 : (w5.alloc (.cells #[.string v.name, .int .i64 v.d0, .int .i64 v.d1, .int .i64 v.d2, .int .i64 v.d3, .int .i64 v.fn, .int .i64 v.fd, .int .i64 v.on, .int .i64 v.od, .int .i64 v.code] 48)).cell? ⟨w5.heap.size, 1, none⟩ = some (.int .i64 v.d0) := blk_cell hC.k11 1
    have z2 : (w5.alloc (.cells #[.string v.name, .int .i64 v.d0, .int .i64 v.d1, .int .i64 v.d2, .int .i64 v.d3, .int .i64 v.fn, .int .i64 v.fd, .int .i64 v.on, .int .i64 v.od, .int .i64 v.code] 48)).cell? ⟨w5.heap.size, 2, none⟩ = some (.int .i64 v.d1) := blk_cell hC.k11 2
    have z3 : (w5.alloc (.cells #[.string v.name, .int .i64 v.d0, .int .i64 v.d1, .int .i64 v.d2, .int .i64 v.d3, .int .i64 v.fn, .int .i64 v.fd, .int .i64 v.on, .int .i64 v.od, .int .i64 v.code] 48)).cell? ⟨w5.heap.size, 3, none⟩ = some (.int .i64 v.d2) := blk_cell hC.k11 3
    have z4 : (w5.alloc (.cells #[.string v.name, .int .i64 v.d0, .int .i64 v.d1, .int .i64 v.d2, .int .i64 v.d3, .int .i64 v.fn, .int .i64 v.fd, .int .i64 v.on, .int .i64 v.od, .int .i64 v.code] 48)).cell? ⟨w5.heap.size, 4, none⟩ = some (.int .i64 v.d3) := blk_cell hC.k11 4
    have z5 : (w5.alloc (.cells #[.string v.name, .int .i64 v.d0, .int .i64 v.d1, .int .i64 v.d2, .int .i64 v.d3, .int .i64 v.fn, .int .i64 v.fd, .int .i64 v.on, .int .i64 v.od, .int .i64 v.code] 48)).cell? ⟨w5.heap.size, 5, none⟩ = some (.int .i64 v.fn) := blk_cell hC.k11 5
    have z6 : (w5.alloc (.cells #[.string v.name, .int .i64 v.d0, .int .i64 v.d1, .int .i64 v.d2, .int .i64 v.d3, .int .i64 v.fn, .int .i64 v.fd, .int .i64 v.on, .int .i64 v.od, .int .i64 v.code] 48)).cell? ⟨w5.heap.size, 6, none⟩ = some (.int .i64 v.fd) := blk_cell hC.k11 6
    have z7 : (w5.alloc (.cells #[.string v.name, .int .i64 v.d0, .int .i64 v.d1, .int .i64 v.d2, .int .i64 v.d3, .int .i64 v.fn, .int .i64 v.fd, .int .i64 v.on, .int .i64 v.od, .int .i64 v.code] 48)).cell? ⟨w5.heap.size, 7, none⟩ = some (.int .i64 v.on) := blk_cell hC.k11 7
    have z8 : (w5.alloc (.cells #[.string v.name, .int .i64 v.d0, .int .i64 v.d1, .int .i64 v.d2, .int .i64 v.d3, .int .i64 v.fn, .int .i64 v.fd, .int .i64 v.on, .int .i64 v.od, .int .i64 v.code] 48)).cell? ⟨w5.heap.size, 8, none⟩ = some (.int .i64 v.od) := blk_cell hC.k11 8
    have z9 : (w5.alloc (.cells #[.string v.name, .int .i64 v.d0, .int .i64 v.d1, .int .i64 v.d2, .int .i64 v.d3, .int .i64 v.fn, .int .i64 v.fd, .int .i64 v.on, .int .i64 v.od, .int .i64 v.code] 48)).cell? ⟨w5.heap.size, 9, none⟩ = some (.int .i64 v.code) := blk_cell hC.k11 9
    by_cases hl : likeU u v
    · simp only [decide_eq_true hl] at he
      have v0 : (w5.alloc (.cells #[.string v.name, .int .i64 v.d0, .int .i64 v.d1, .int .i64 v.d2, .int .i64 v.d3, .int .i64 v.fn, .int .i64 v.fd, .int .i64 v.on, .int .i64 v.od, .int .i64 v.code] 48)).cell? ⟨w.heap.size, 0, none⟩ = some (.int .i64 vn) := blk_cell hC.b.b1 0
      have v1 : (w5.alloc (.cells #[.string v.name, .int .i64 v.d0, .int .i64 v.d1, .int .i64 v.d2, .int .i64 v.d3, .int .i64 v.fn, .int .i64 v.fd, .int .i64 v.on, .int .i64 v.od, .int .i64 v.code] 48)).cell? ⟨w.heap.size, 1, none⟩ = some (.int .i64 vd) := blk_cell hC.b.b1 1
      go_wp2_with fail
      refine (HR.out _).mono ?_
      rintro e w6 ⟨rfl, hb6⟩
      obtain ⟨p11, hp11⟩ : ∃ p, p = w5.heap.size := ⟨_, rfl⟩
      rw [← hp11] at hC
      rw [← hp11]
      clear he c0 c1 v0 v1 u0 z0 u1 z1 u2 z2 u3 z3 u4 z4 u5 z5 u6 z6 u7 z7 u8 z8 u9 z9 hp11
      replace hC := hC.step hb6
      clear hb6
      cases rr with
      | false =>
        have hx := HK.out.wrong rfl rfl hl (of_decide_eq_false ER.out)
        simp only [Prod.mk.injEq] at hx
        obtain ⟨rfl, rfl, rfl⟩ := hx
        have c0 : w6.cell? ⟨p7, 0, none⟩ = some (.int .i64 0) := blk_cell hC.k7 0
        have c1 : w6.cell? ⟨p7, 1, none⟩ = some (.int .i64 0) := blk_cell hC.k7 1
        go_wp2_with fail
        go_ret
        exact ⟨by simp, hC.b.be⟩
      | true =>
        obtain ⟨M, hM, hxM⟩ := HK.out.fine rfl rfl hl (of_decide_eq_true ER.out)
        have HM := Lib.hid hM
        clear hM hl
        have c0 : w6.cell? ⟨p7, 0, none⟩ = some (.int .i64 x1) := blk_cell hC.k7 0
        have c1 : w6.cell? ⟨p7, 1, none⟩ = some (.int .i64 x2) := blk_cell hC.k7 1
        have v0 : w6.cell? ⟨w.heap.size, 0, none⟩ = some (.int .i64 vn) := blk_cell hC.b.b1 0
        have v1 : w6.cell? ⟨w.heap.size, 1, none⟩ = some (.int .i64 vd) := blk_cell hC.b.b1 1
        have u0 : w6.cell? ⟨p9, 0, none⟩ = some (.string u.name) := blk_cell hC.k9 0
        have u1 : w6.cell? ⟨p9, 1, none⟩ = some (.int .i64 u.d0) := blk_cell hC.k9 1
        have u2 : w6.cell? ⟨p9, 2, none⟩ = some (.int .i64 u.d1) := blk_cell hC.k9 2
        have u3 : w6.cell? ⟨p9, 3, none⟩ = some (.int .i64 u.d2) := blk_cell hC.k9 3
        have u4 : w6.cell? ⟨p9, 4, none⟩ = some (.int .i64 u.d3) := blk_cell hC.k9 4
        have u5 : w6.cell? ⟨p9, 5, none⟩ = some (.int .i64 u.fn) := blk_cell hC.k9 5
        have u6 : w6.cell? ⟨p9, 6, none⟩ = some (.int .i64 u.fd) := blk_cell hC.k9 6
        have u7 : w6.cell? ⟨p9, 7, none⟩ = some (.int .i64 u.on) := blk_cell hC.k9 7
        have u8 : w6.cell? ⟨p9, 8, none⟩ = some (.int .i64 u.od) := blk_cell hC.k9 8
        have u9 : w6.cell? ⟨p9, 9, none⟩ = some (.int .i64 u.code) := blk_cell hC.k9 9
        have z0 : w6.cell? ⟨p11, 0, none⟩ = some (.string v.name) := blk_cell hC.k11 0
        have z1 : w6.cell? ⟨p11, 1, none⟩ = some (.int .i64 v.d0) := blk_cell hC.k11 1
        have z2 : w6.cell? ⟨p11, 2, none⟩ = some (.int .i64 v.d1) := blk_cell hC.k11 2
        have z3 : w6.cell? ⟨p11, 3, none⟩ = some (.int .i64 v.d2) := blk_cell hC.k11 3
        have z4 : w6.cell? ⟨p11, 4, none⟩ = some (.int .i64 v.d3) := blk_cell hC.k11 4
        have z5 : w6.cell? ⟨p11, 5, none⟩ = some (.int .i64 v.fn) := blk_cell hC.k11 5
        have z6 : w6.cell? ⟨p11, 6, none⟩ = some (.int .i64 v.fd) := blk_cell hC.k11 6
        have z7 : w6.cell? ⟨p11, 7, none⟩ = some (.int .i64 v.on) := blk_cell hC.k11 7
        have z8 : w6.cell? ⟨p11, 8, none⟩ = some (.int .i64 v.od) := blk_cell hC.k11 8
        have z9 : w6.cell? ⟨p11, 9, none⟩ = some (.int .i64 v.code) := blk_cell hC.k11 9
        go_wp2_with fail
        cases M with
        | none =>
          have cc := HM.out
          simp only [ansB, toldB] at cc
          simp only [outO, Prod.mk.injEq] at hxM
          obtain ⟨rfl, rfl, rfl⟩ := hxM
          refine (cc _).mono ?_
          rintro e w7 ⟨rfl, hb7⟩
          clear cc
          clear c0 c1 v0 v1 u0 z0 u1 z1 u2 z2 u3 z3 u4 z4 u5 z5 u6 z6 u7 z7 u8 z8 u9 z9
          have k14 := blk_new w7 (.cells #[.int .i64 0, .int .i64 0] 23)
          replace hC := (hC.step hb7).step (below_alloc (Below.refl _ _) (.cells #[.int .i64 0, .int .i64 0] 23))
          clear hb7
          go_wp2_with fail
          obtain ⟨p14, hp14⟩ : ∃ p, p = w7.heap.size := ⟨_, rfl⟩
          obtain ⟨w8, hw8⟩ : ∃ w8, w8 = w7.alloc (.cells #[.int .i64 0, .int .i64 0] 23) := ⟨_, rfl⟩
          rw [← hw8, ← hp14] at k14
          rw [← hw8] at hC
          rw [← hw8, ← hp14]
          clear hw8 hp14
          refine start_ (n := 18) (S := fun wx => (Ct w wx vn vd 0 0 p7 p9 p11 u v ∧ wx.heap[p14]? = some (.cells #[.int .i64 0, .int .i64 0] 23 (0, 0)))) (ds := []) #[false, false, false, false, false, false, false, false, false, false, false, false, false, false, false, false, false, false] (by kernel_rfl) rfl rfl ⟨hC.step (below_drew (Below.refl _ _)), blk_below k14 (below_drew (Below.refl _ _))⟩ (fun hHeld => ?_)
          refine pure_ (i := 0) (N := some 78) (v := ?_) (a' := ?_) #[true, false, false, false, false, false, false, false, false, false, false, false, false, false, false, false, false, false] rfl rfl (by kernel_rfl) (fun _ _ _ h => h) (Or.inl ⟨by rfl, ?_⟩) ?_ ?_
          rotate_left
          · intro w'
            go_simp
            try with_reducible rfl
          rotate_left
          · simp only [Act.put, List.setIfInBounds_toArray, List.set_cons_zero, List.set_cons_succ, i64_w, i32_w]
            rfl
          refine pure_ (i := 1) (N := some 79) (v := ?_) (a' := ?_) #[true, true, false, false, false, false, false, false, false, false, false, false, false, false, false, false, false, false] rfl rfl (by kernel_rfl) (fun _ _ _ h => h) (Or.inl ⟨by rfl, ?_⟩) ?_ ?_
          rotate_left
          · intro w'
            go_simp
            try with_reducible rfl
          rotate_left
          · simp only [Act.put, List.setIfInBounds_toArray, List.set_cons_zero, List.set_cons_succ, i64_w, i32_w]
            rfl
          refine pure_ (i := 2) (N := some 80) (v := ?_) (a' := ?_) #[true, true, true, false, false, false, false, false, false, false, false, false, false, false, false, false, false, false] rfl rfl (by kernel_rfl) (fun _ _ _ h => h) (Or.inl ⟨by rfl, ?_⟩) ?_ ?_
          rotate_left
          · intro w'
            go_simp
            try with_reducible rfl
          rotate_left
          · simp only [Act.put, List.setIfInBounds_toArray, List.set_cons_zero, List.set_cons_succ, i64_w, i32_w]
            rfl
          refine pure_ (i := 3) (N := some 81) (v := ?_) (a' := ?_) #[true, true, true, true, false, false, false, false, false, false, false, false, false, false, false, false, false, false] rfl rfl (by kernel_rfl) (fun _ _ _ h => h) (Or.inl ⟨by rfl, ?_⟩) ?_ ?_
          rotate_left
          · intro w'
            go_simp
            try with_reducible rfl
          rotate_left
          · simp only [Act.put, List.setIfInBounds_toArray, List.set_cons_zero, List.set_cons_succ, i64_w, i32_w]
            rfl
          refine pure_ (i := 4) (N := some 82) (v := ?_) (a' := ?_) #[true, true, true, true, true, false, false, false, false, false, false, false, false, false, false, false, false, false] rfl rfl (by kernel_rfl) (fun _ _ _ h => h) (Or.inl ⟨by rfl, ?_⟩) ?_ ?_
          rotate_left
          · intro w'
            go_simp
            try with_reducible rfl
          rotate_left
          · simp only [Act.put, List.setIfInBounds_toArray, List.set_cons_zero, List.set_cons_succ, i64_w, i32_w]
            rfl
          refine pure_ (i := 5) (N := some 83) (v := ?_) (a' := ?_) #[true, true, true, true, true, true, false, false, false, false, false, false, false, false, false, false, false, false] rfl rfl (by kernel_rfl) (fun _ _ _ h => h) (Or.inl ⟨by rfl, ?_⟩) ?_ ?_
          rotate_left
          · intro w'
            go_simp
            try with_reducible rfl
          rotate_left
          · simp only [Act.put, List.setIfInBounds_toArray, List.set_cons_zero, List.set_cons_succ, i64_w, i32_w]
            rfl
          refine pure_ (i := 6) (N := some 84) (v := ?_) (a' := ?_) #[true, true, true, true, true, true, true, false, false, false, false, false, false, false, false, false, false, false] rfl rfl (by kernel_rfl) (fun _ _ _ h => h) (Or.inl ⟨by rfl, ?_⟩) ?_ ?_
          rotate_left
          · intro w'
            go_simp
            try with_reducible rfl
          rotate_left
          · simp only [Act.put, List.setIfInBounds_toArray, List.set_cons_zero, List.set_cons_succ, i64_w, i32_w]
            rfl
          refine pure_ (i := 7) (N := some 85) (v := ?_) (a' := ?_) #[true, true, true, true, true, true, true, true, false, false, false, false, false, false, false, false, false, false] rfl rfl (by kernel_rfl) (fun _ _ _ h => h) (Or.inl ⟨by rfl, ?_⟩) ?_ ?_
          rotate_left
          · intro w'
            go_simp
            try with_reducible rfl
          rotate_left
          · simp only [Act.put, List.setIfInBounds_toArray, List.set_cons_zero, List.set_cons_succ, i64_w, i32_w]
            rfl
          refine pure_ (i := 8) (N := some 86) (v := ?_) (a' := ?_) #[true, true, true, true, true, true, true, true, true, false, false, false, false, false, false, false, false, false] rfl rfl (by kernel_rfl) (fun _ _ _ h => h) (Or.inl ⟨by rfl, ?_⟩) ?_ ?_
          rotate_left
          · intro w'
            go_simp
            try with_reducible rfl
          rotate_left
          · simp only [Act.put, List.setIfInBounds_toArray, List.set_cons_zero, List.set_cons_succ, i64_w, i32_w]
            rfl
          refine pure_ (i := 9) (N := some 87) (v := ?_) (a' := ?_) #[true, true, true, true, true, true, true, true, true, true, false, false, false, false, false, false, false, false] rfl rfl (by kernel_rfl) (fun _ _ _ h => h) (Or.inl ⟨by rfl, ?_⟩) ?_ ?_
          rotate_left
          · intro w'
            go_simp
            try with_reducible rfl
          rotate_left
          · simp only [Act.put, List.setIfInBounds_toArray, List.set_cons_zero, List.set_cons_succ, i64_w, i32_w]
            rfl
          refine pure_ (i := 10) (N := some 88) (v := ?_) (a' := ?_) #[true, true, true, true, true, true, true, true, true, true, true, false, false, false, false, false, false, false] rfl rfl (by kernel_rfl) (fun _ _ _ h => h) (Or.inl ⟨by rfl, ?_⟩) ?_ ?_
          rotate_left
          · intro w'
            go_simp
            try with_reducible rfl
          rotate_left
          · simp only [Act.put, List.setIfInBounds_toArray, List.set_cons_zero, List.set_cons_succ, i64_w, i32_w]
            rfl
          refine pure_ (i := 11) (N := some 89) (v := ?_) (a' := ?_) #[true, true, true, true, true, true, true, true, true, true, true, true, false, false, false, false, false, false] rfl rfl (by kernel_rfl) (fun _ _ _ h => h) (Or.inl ⟨by rfl, ?_⟩) ?_ ?_
          rotate_left
          · intro w'
            go_simp
            try with_reducible rfl
          rotate_left
          · simp only [Act.put, List.setIfInBounds_toArray, List.set_cons_zero, List.set_cons_succ, i64_w, i32_w]
            rfl
          refine take_ (i := 12) (N := some 90) (v := ?_) (a' := ?_) #[true, true, true, true, true, true, true, true, true, true, true, true, true, false, false, false, false, false] rfl rfl (by kernel_rfl) (fun _ _ _ h => h) (Or.inl ⟨by rfl, ?_⟩) hHeld ?_ ?_
          rotate_left
          · rintro w' ⟨hh, h14⟩
            have c0 : w'.cell? ⟨p7, 0, none⟩ = some (.int .i64 0) := blk_cell hh.k7 0
            have c1 : w'.cell? ⟨p7, 1, none⟩ = some (.int .i64 0) := blk_cell hh.k7 1
            have y0 : w'.cell? ⟨p14, 0, none⟩ = some (.int .i64 0) := blk_cell h14 0
            have y1 : w'.cell? ⟨p14, 1, none⟩ = some (.int .i64 0) := blk_cell h14 1
            go_simp
            with_reducible rfl
          rotate_left
          · simp only [Act.put, List.setIfInBounds_toArray, List.set_cons_zero, List.set_cons_succ, i64_w, i32_w]
            rfl
          refine take_ (i := 14) (N := some 92) (v := ?_) (a' := ?_) #[true, true, true, true, true, true, true, true, true, true, true, true, true, false, true, false, false, false] rfl rfl (by kernel_rfl) (fun _ _ _ h => h) (Or.inl ⟨by rfl, ?_⟩) hHeld ?_ ?_
          rotate_left
          · rintro w' ⟨hh, h14⟩
            have c0 : w'.cell? ⟨p7, 0, none⟩ = some (.int .i64 0) := blk_cell hh.k7 0
            have c1 : w'.cell? ⟨p7, 1, none⟩ = some (.int .i64 0) := blk_cell hh.k7 1
            have y0 : w'.cell? ⟨p14, 0, none⟩ = some (.int .i64 0) := blk_cell h14 0
            have y1 : w'.cell? ⟨p14, 1, none⟩ = some (.int .i64 0) := blk_cell h14 1
            go_simp
            with_reducible rfl
          rotate_left
          · simp only [Act.put, List.setIfInBounds_toArray, List.set_cons_zero, List.set_cons_succ, i64_w, i32_w]
            rfl
          refine one_ (i := 13) (N := some 91) #[true, true, true, true, true, true, true, true, true, true, true, true, true, true, true, false, false, false] rfl rfl (by kernel_rfl) (by decide) (fun K hK => ?_)
          refine goes_ Try.func32 (by kernel_rfl) rfl #[.agg #[.int .i64 0, .int .i64 0]] (by rfl) rfl rfl (by (try simp only [List.map_toArray, List.map_cons, List.map_nil]); first | done | rfl) ?_
          refine (plain_calls 0 0 _).mono ?_
          rintro e wz ⟨rfl, hb_⟩
          refine ⟨_, rfl, ?_⟩
          refine hK.out _ _ ⟨hHeld.1.step hb_, blk_below hHeld.2 hb_⟩ (fun hHeld => ?_)
          clear hK K
          refine norm_ (a' := ?_) ?_ ?_
          rotate_left
          · show Act.put _ (some 91) _ = _
            simp only [Act.put, List.setIfInBounds_toArray, List.set_cons_zero, List.set_cons_succ, i64_w, i32_w]
            rfl
          refine pure_ (i := 15) (N := some 93) (v := ?_) (a' := ?_) #[true, true, true, true, true, true, true, true, true, true, true, true, true, true, true, true, false, false] rfl rfl (by kernel_rfl) (fun _ _ _ h => h) (Or.inl ⟨by rfl, ?_⟩) ?_ ?_
          rotate_left
          · intro w'
            go_simp
            try with_reducible rfl
          rotate_left
          · simp only [Act.put, List.setIfInBounds_toArray, List.set_cons_zero, List.set_cons_succ, i64_w, i32_w]
            rfl
          refine pure_ (i := 16) (N := some 94) (v := ?_) (a' := ?_) #[true, true, true, true, true, true, true, true, true, true, true, true, true, true, true, true, true, false] rfl rfl (by kernel_rfl) (fun _ _ _ h => h) (Or.inl ⟨by rfl, ?_⟩) ?_ ?_
          rotate_left
          · intro w'
            go_simp
            try with_reducible rfl
          rotate_left
          · simp only [Act.put, List.setIfInBounds_toArray, List.set_cons_zero, List.set_cons_succ, i64_w, i32_w]
            rfl
          refine pure_ (i := 17) (N := some 6) (v := ?_) (a' := ?_) #[true, true, true, true, true, true, true, true, true, true, true, true, true, true, true, true, true, true] rfl rfl (by kernel_rfl) (fun _ _ _ h => h) (Or.inl ⟨by rfl, ?_⟩) ?_ ?_
          rotate_left
          · intro w'
            go_simp
            try with_reducible rfl
          rotate_left
          · simp only [Act.put, List.setIfInBounds_toArray, List.set_cons_zero, List.set_cons_succ, i64_w, i32_w]
            rfl
          refine done_ (by kernel_rfl) ?_
          go_wp2_with fail
          go_ret
          exact ⟨by simp, hHeld.1.b.be⟩
        | some m =>
          obtain ⟨m1, m2⟩ := m
          have cc := HM.out
          simp only [ansB, toldB] at cc
          simp only [outO, Prod.mk.injEq] at hxM
          obtain ⟨rfl, rfl, rfl⟩ := hxM
          refine (cc _).mono ?_
          rintro e w7 ⟨rfl, hb7⟩
          clear cc
          clear c0 c1 v0 v1 u0 z0 u1 z1 u2 z2 u3 z3 u4 z4 u5 z5 u6 z6 u7 z7 u8 z8 u9 z9
          have k14 := blk_new w7 (.cells #[.int .i64 x1, .int .i64 x2] 23)
          replace hC := (hC.step hb7).step (below_alloc (Below.refl _ _) (.cells #[.int .i64 x1, .int .i64 x2] 23))
          clear hb7
          go_wp2_with fail
          obtain ⟨p14, hp14⟩ : ∃ p, p = w7.heap.size := ⟨_, rfl⟩
          obtain ⟨w8, hw8⟩ : ∃ w8, w8 = w7.alloc (.cells #[.int .i64 x1, .int .i64 x2] 23) := ⟨_, rfl⟩
          rw [← hw8, ← hp14] at k14
          rw [← hw8] at hC
          rw [← hw8, ← hp14]
          clear hw8 hp14
          refine start_ (n := 18) (S := fun wx => (Ct w wx vn vd x1 x2 p7 p9 p11 u v ∧ wx.heap[p14]? = some (.cells #[.int .i64 x1, .int .i64 x2] 23 (0, 0)))) (ds := []) #[false, false, false, false, false, false, false, false, false, false, false, false, false, false, false, false, false, false] (by kernel_rfl) rfl rfl ⟨hC.step (below_drew (Below.refl _ _)), blk_below k14 (below_drew (Below.refl _ _))⟩ (fun hHeld => ?_)
          refine pure_ (i := 0) (N := some 78) (v := ?_) (a' := ?_) #[true, false, false, false, false, false, false, false, false, false, false, false, false, false, false, false, false, false] rfl rfl (by kernel_rfl) (fun _ _ _ h => h) (Or.inl ⟨by rfl, ?_⟩) ?_ ?_
          rotate_left
          · intro w'
            go_simp
            try with_reducible rfl
          rotate_left
          · simp only [Act.put, List.setIfInBounds_toArray, List.set_cons_zero, List.set_cons_succ, i64_w, i32_w]
            rfl
          refine pure_ (i := 1) (N := some 79) (v := ?_) (a' := ?_) #[true, true, false, false, false, false, false, false, false, false, false, false, false, false, false, false, false, false] rfl rfl (by kernel_rfl) (fun _ _ _ h => h) (Or.inl ⟨by rfl, ?_⟩) ?_ ?_
          rotate_left
          · intro w'
            go_simp
            try with_reducible rfl
          rotate_left
          · simp only [Act.put, List.setIfInBounds_toArray, List.set_cons_zero, List.set_cons_succ, i64_w, i32_w]
            rfl
          refine pure_ (i := 2) (N := some 80) (v := ?_) (a' := ?_) #[true, true, true, false, false, false, false, false, false, false, false, false, false, false, false, false, false, false] rfl rfl (by kernel_rfl) (fun _ _ _ h => h) (Or.inl ⟨by rfl, ?_⟩) ?_ ?_
          rotate_left
          · intro w'
            go_simp
            try with_reducible rfl
          rotate_left
          · simp only [Act.put, List.setIfInBounds_toArray, List.set_cons_zero, List.set_cons_succ, i64_w, i32_w]
            rfl
          refine pure_ (i := 3) (N := some 81) (v := ?_) (a' := ?_) #[true, true, true, true, false, false, false, false, false, false, false, false, false, false, false, false, false, false] rfl rfl (by kernel_rfl) (fun _ _ _ h => h) (Or.inl ⟨by rfl, ?_⟩) ?_ ?_
          rotate_left
          · intro w'
            go_simp
            try with_reducible rfl
          rotate_left
          · simp only [Act.put, List.setIfInBounds_toArray, List.set_cons_zero, List.set_cons_succ, i64_w, i32_w]
            rfl
          refine pure_ (i := 4) (N := some 82) (v := ?_) (a' := ?_) #[true, true, true, true, true, false, false, false, false, false, false, false, false, false, false, false, false, false] rfl rfl (by kernel_rfl) (fun _ _ _ h => h) (Or.inl ⟨by rfl, ?_⟩) ?_ ?_
          rotate_left
          · intro w'
            go_simp
            try with_reducible rfl
          rotate_left
          · simp only [Act.put, List.setIfInBounds_toArray, List.set_cons_zero, List.set_cons_succ, i64_w, i32_w]
            rfl
          refine pure_ (i := 5) (N := some 83) (v := ?_) (a' := ?_) #[true, true, true, true, true, true, false, false, false, false, false, false, false, false, false, false, false, false] rfl rfl (by kernel_rfl) (fun _ _ _ h => h) (Or.inl ⟨by rfl, ?_⟩) ?_ ?_
          rotate_left
          · intro w'
            go_simp
            try with_reducible rfl
          rotate_left
          · simp only [Act.put, List.setIfInBounds_toArray, List.set_cons_zero, List.set_cons_succ, i64_w, i32_w]
            rfl
          refine pure_ (i := 6) (N := some 84) (v := ?_) (a' := ?_) #[true, true, true, true, true, true, true, false, false, false, false, false, false, false, false, false, false, false] rfl rfl (by kernel_rfl) (fun _ _ _ h => h) (Or.inl ⟨by rfl, ?_⟩) ?_ ?_
          rotate_left
          · intro w'
            go_simp
            try with_reducible rfl
          rotate_left
          · simp only [Act.put, List.setIfInBounds_toArray, List.set_cons_zero, List.set_cons_succ, i64_w, i32_w]
            rfl
          refine pure_ (i := 7) (N := some 85) (v := undef) (a' := ?_) #[true, true, true, true, true, true, true, true, false, false, false, false, false, false, false, false, false, false] rfl rfl (by kernel_rfl) (fun _ _ _ h => h) (Or.inr ⟨by rfl, rfl⟩) ?_ ?_
          rotate_left
          · simp only [Act.put, List.setIfInBounds_toArray, List.set_cons_zero, List.set_cons_succ, i64_w, i32_w]
            rfl
          refine pure_ (i := 8) (N := some 86) (v := undef) (a' := ?_) #[true, true, true, true, true, true, true, true, true, false, false, false, false, false, false, false, false, false] rfl rfl (by kernel_rfl) (fun _ _ _ h => h) (Or.inr ⟨by rfl, rfl⟩) ?_ ?_
          rotate_left
          · simp only [Act.put, List.setIfInBounds_toArray, List.set_cons_zero, List.set_cons_succ, i64_w, i32_w]
            rfl
          refine pure_ (i := 9) (N := some 87) (v := ?_) (a' := ?_) #[true, true, true, true, true, true, true, true, true, true, false, false, false, false, false, false, false, false] rfl rfl (by kernel_rfl) (fun _ _ _ h => h) (Or.inl ⟨by rfl, ?_⟩) ?_ ?_
          rotate_left
          · intro w'
            go_simp
            try with_reducible rfl
          rotate_left
          · simp only [Act.put, List.setIfInBounds_toArray, List.set_cons_zero, List.set_cons_succ, i64_w, i32_w]
            rfl
          refine pure_ (i := 10) (N := some 88) (v := ?_) (a' := ?_) #[true, true, true, true, true, true, true, true, true, true, true, false, false, false, false, false, false, false] rfl rfl (by kernel_rfl) (fun _ _ _ h => h) (Or.inl ⟨by rfl, ?_⟩) ?_ ?_
          rotate_left
          · intro w'
            go_simp
            try with_reducible rfl
          rotate_left
          · simp only [Act.put, List.setIfInBounds_toArray, List.set_cons_zero, List.set_cons_succ, i64_w, i32_w]
            rfl
          refine pure_ (i := 11) (N := some 89) (v := ?_) (a' := ?_) #[true, true, true, true, true, true, true, true, true, true, true, true, false, false, false, false, false, false] rfl rfl (by kernel_rfl) (fun _ _ _ h => h) (Or.inl ⟨by rfl, ?_⟩) ?_ ?_
          rotate_left
          · intro w'
            go_simp
            try with_reducible rfl
          rotate_left
          · simp only [Act.put, List.setIfInBounds_toArray, List.set_cons_zero, List.set_cons_succ, i64_w, i32_w]
            rfl
          refine take_ (i := 12) (N := some 90) (v := ?_) (a' := ?_) #[true, true, true, true, true, true, true, true, true, true, true, true, true, false, false, false, false, false] rfl rfl (by kernel_rfl) (fun _ _ _ h => h) (Or.inl ⟨by rfl, ?_⟩) hHeld ?_ ?_
          rotate_left
          · rintro w' ⟨hh, h14⟩
            have c0 : w'.cell? ⟨p7, 0, none⟩ = some (.int .i64 x1) := blk_cell hh.k7 0
            have c1 : w'.cell? ⟨p7, 1, none⟩ = some (.int .i64 x2) := blk_cell hh.k7 1
            have y0 : w'.cell? ⟨p14, 0, none⟩ = some (.int .i64 x1) := blk_cell h14 0
            have y1 : w'.cell? ⟨p14, 1, none⟩ = some (.int .i64 x2) := blk_cell h14 1
            go_simp
            with_reducible rfl
          rotate_left
          · simp only [Act.put, List.setIfInBounds_toArray, List.set_cons_zero, List.set_cons_succ, i64_w, i32_w]
            rfl
          refine take_ (i := 14) (N := some 92) (v := ?_) (a' := ?_) #[true, true, true, true, true, true, true, true, true, true, true, true, true, false, true, false, false, false] rfl rfl (by kernel_rfl) (fun _ _ _ h => h) (Or.inl ⟨by rfl, ?_⟩) hHeld ?_ ?_
          rotate_left
          · rintro w' ⟨hh, h14⟩
            have c0 : w'.cell? ⟨p7, 0, none⟩ = some (.int .i64 x1) := blk_cell hh.k7 0
            have c1 : w'.cell? ⟨p7, 1, none⟩ = some (.int .i64 x2) := blk_cell hh.k7 1
            have y0 : w'.cell? ⟨p14, 0, none⟩ = some (.int .i64 x1) := blk_cell h14 0
            have y1 : w'.cell? ⟨p14, 1, none⟩ = some (.int .i64 x2) := blk_cell h14 1
            go_simp
            with_reducible rfl
          rotate_left
          · simp only [Act.put, List.setIfInBounds_toArray, List.set_cons_zero, List.set_cons_succ, i64_w, i32_w]
            rfl
          refine one_ (i := 13) (N := some 91) #[true, true, true, true, true, true, true, true, true, true, true, true, true, true, true, false, false, false] rfl rfl (by kernel_rfl) (by decide) (fun K hK => ?_)
          refine goes_ Try.func32 (by kernel_rfl) rfl #[.agg #[.int .i64 x1, .int .i64 x2]] (by rfl) rfl rfl (by (try simp only [List.map_toArray, List.map_cons, List.map_nil]); first | done | rfl) ?_
          refine (plain_calls x1 x2 _).mono ?_
          rintro e wz ⟨rfl, hb_⟩
          refine ⟨_, rfl, ?_⟩
          refine hK.out _ _ ⟨hHeld.1.step hb_, blk_below hHeld.2 hb_⟩ (fun hHeld => ?_)
          clear hK K
          refine norm_ (a' := ?_) ?_ ?_
          rotate_left
          · show Act.put _ (some 91) _ = _
            simp only [Act.put, List.setIfInBounds_toArray, List.set_cons_zero, List.set_cons_succ, i64_w, i32_w]
            rfl
          refine pure_ (i := 15) (N := some 93) (v := ?_) (a' := ?_) #[true, true, true, true, true, true, true, true, true, true, true, true, true, true, true, true, false, false] rfl rfl (by kernel_rfl) (fun _ _ _ h => h) (Or.inl ⟨by rfl, ?_⟩) ?_ ?_
          rotate_left
          · intro w'
            go_simp
            try with_reducible rfl
          rotate_left
          · simp only [Act.put, List.setIfInBounds_toArray, List.set_cons_zero, List.set_cons_succ, i64_w, i32_w]
            rfl
          refine pure_ (i := 16) (N := some 94) (v := ?_) (a' := ?_) #[true, true, true, true, true, true, true, true, true, true, true, true, true, true, true, true, true, false] rfl rfl (by kernel_rfl) (fun _ _ _ h => h) (Or.inl ⟨by rfl, ?_⟩) ?_ ?_
          rotate_left
          · intro w'
            go_simp
            try with_reducible rfl
          rotate_left
          · simp only [Act.put, List.setIfInBounds_toArray, List.set_cons_zero, List.set_cons_succ, i64_w, i32_w]
            rfl
          refine pure_ (i := 17) (N := some 6) (v := ?_) (a' := ?_) #[true, true, true, true, true, true, true, true, true, true, true, true, true, true, true, true, true, true] rfl rfl (by kernel_rfl) (fun _ _ _ h => h) (Or.inl ⟨by rfl, ?_⟩) ?_ ?_
          rotate_left
          · intro w'
            go_simp
            try with_reducible rfl
          rotate_left
          · simp only [Act.put, List.setIfInBounds_toArray, List.set_cons_zero, List.set_cons_succ, i64_w, i32_w]
            rfl
          refine done_ (by kernel_rfl) ?_
          go_wp2_with fail
          go_ret
          exact ⟨by simp, hHeld.1.b.be⟩
    · simp only [decide_eq_false hl] at he
      have hx := HK.out.unlike rfl rfl hl
      simp only [Prod.mk.injEq] at hx
      obtain ⟨rfl, rfl, rfl⟩ := hx
      go_wp2_with fail
      go_ret
      exact ⟨by simp, hC.b.be⟩
end Go.Proofs.Ytcldlfhnmkogeaa.UnitConvertsWalk

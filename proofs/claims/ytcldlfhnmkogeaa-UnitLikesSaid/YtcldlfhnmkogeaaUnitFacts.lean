import Derived.Test.YtcldlfhnmkogeaaUnitConv
/- What conversions are worth, in plain Lean. -/
set_option linter.unusedVariables false
set_option linter.unusedSimpArgs false
namespace Go.Proofs.Ytcldlfhnmkogeaa.Unit
open Go.Proofs.Ytcldlfhnmkogeaa.RatPlain Go.Proofs.Ytcldlfhnmkogeaa.Scale

theorem find_congr {a b : ByteArray} (h : a.toList = b.toList) : find a = find b := by
  unfold find
  rw [h]
/-- A unit's factor and offset. -/
def URow.F (u : URow) : Rat := RatPlain.val u.fn u.fd
def URow.O (u : URow) : Rat := RatPlain.val u.on u.od
theorem pos_of {n d : Int} (h : Rt n d) (h0 : 0 < n) : 0 < val n d := by
  have h1 := val_lt (Rt_one 0) h
  have e : val 0 1 = 0 := (val_zero (Rt_one 0)).2 rfl
  rw [e] at h1
  rw [h1]
  omega
theorem URow.good.pos {u : URow} (h : u.good) : 0 < u.F := pos_of h.2.2.2.2.2.2.1 h.2.2.2.2.2.1
theorem inv_unit {n d : Int} (h : Rt n d) (h0 : 0 < n) : Rt d n ∧ val d n * val n d = 1 := by
  have h1 := h.1
  refine ⟨⟨h0, by rw [Int.gcd_comm]; exact h.2⟩, ?_⟩
  unfold val
  rw [Rat.divInt_mul_divInt, Int.mul_comm]
  exact Rat.divInt_self' (Int.mul_ne_zero (by omega) (by omega))
/-- The steps go beyond, or are worth what they are to be. -/
theorem steps_cases {x y : URow} (hx : x.good) (hy : y.good) {vn vd : Int} (hv : Rt vn vd) :
    stepsU x y (vn, vd, 0) = (0, 0, 2) ∨ ∃ n d, stepsU x y (vn, vd, 0) = (n, d, 0) ∧ Rt n d ∧ val n d * y.F + y.O = val vn vd * x.F + x.O := by
  obtain ⟨_, _, _, _, _, _, xf, xo⟩ := hx
  obtain ⟨_, _, _, _, _, yp, yf, yo⟩ := hy
  obtain ⟨yi, hyi⟩ := inv_unit yf yp
  unfold stepsU
  rcases timesW_cases (vn, vd, 0) x.fn x.fd xf with ⟨h1, _⟩ | ⟨_, h1, _⟩ | ⟨_, h1⟩ | ⟨_, n1, d1, h1, h2, h3⟩
  · exact absurd rfl h1
  · exact absurd hv h1
  · rw [h1]; exact .inl rfl
  · rw [h1]
    rcases plusW_cases (n1, d1, 0) x.on x.od xo with ⟨k1, _⟩ | ⟨_, k1, _⟩ | ⟨_, k1⟩ | ⟨_, n2, d2, k1, k2, k3⟩
    · exact absurd rfl k1
    · exact absurd h2 k1
    · rw [k1]; exact .inl rfl
    · rw [k1]
      rcases plusW_cases (n2, d2, 0) (-y.on) y.od (Rt_neg yo) with ⟨m1, _⟩ | ⟨_, m1, _⟩ | ⟨_, m1⟩ | ⟨_, n3, d3, m1, m2, m3⟩
      · exact absurd rfl m1
      · exact absurd k2 m1
      · rw [m1]; exact .inl rfl
      · rw [m1]
        rcases timesW_cases (n3, d3, 0) y.fd y.fn yi with ⟨p1, _⟩ | ⟨_, p1, _⟩ | ⟨_, p1⟩ | ⟨_, n4, d4, p1, p2, p3⟩
        · exact absurd rfl p1
        · exact absurd m2 p1
        · exact .inl p1
        · refine .inr ⟨n4, d4, p1, p2, ?_⟩
          dsimp only at h3 k3 m3 p3
          rw [val_neg] at m3
          unfold URow.F URow.O
          rw [p3, m3, k3, h3]
          grind
theorem conv_cases (a b : ByteArray) {vn vd : Int} (hv : Rt vn vd) : ((find a = none ∨ find b = none) ∧ convR a b vn vd = (0, 0, 4)) ∨
    ∃ x y, find a = some x ∧ find b = some y ∧ ((¬ likeU x y ∧ convR a b vn vd = (0, 0, 5)) ∨ (likeU x y ∧ convR a b vn vd = (0, 0, 2) ∧ a.toList ≠ b.toList) ∨
      (likeU x y ∧ ∃ n d, convR a b vn vd = (n, d, 0) ∧ Rt n d ∧ val n d * y.F + y.O = val vn vd * x.F + x.O)) := by
  unfold convR
  cases hx : find a with
  | none => exact .inl ⟨.inl rfl, rfl⟩
  | some x =>
    cases hy : find b with
    | none => exact .inl ⟨.inr rfl, rfl⟩
    | some y =>
      refine .inr ⟨x, y, rfl, rfl, ?_⟩
      dsimp only
      by_cases hl : likeU x y
      · rw [if_pos hl, if_pos hv]
        by_cases hs : a.toList = b.toList
        · rw [if_pos hs]
          have e := find_congr hs
          rw [hx, hy] at e
          cases e
          exact .inr (.inr ⟨hl, vn, vd, rfl, hv, rfl⟩)
        · rw [if_neg hs]
          rcases steps_cases (find_good hx) (find_good hy) hv with h | ⟨n, d, h1, h2, h3⟩
          · exact .inr (.inl ⟨hl, h, hs⟩)
          · exact .inr (.inr ⟨hl, n, d, h1, h2, h3⟩)
      · rw [if_neg hl]
        exact .inl ⟨hl, rfl⟩
theorem conv_ok {a b : ByteArray} {vn vd n d : Int} (hv : Rt vn vd) (h : convR a b vn vd = (n, d, 0)) : ∃ x y, find a = some x ∧ find b = some y ∧ likeU x y ∧ Rt n d ∧ val n d * y.F + y.O = val vn vd * x.F + x.O := by
  rcases conv_cases a b hv with ⟨_, k⟩ | ⟨x, y, hx, hy, ⟨_, k⟩ | ⟨_, k, _⟩ | ⟨hl, n', d', k, k2, k3⟩⟩
  · rw [k] at h; cases h
  · rw [k] at h; cases h
  · rw [k] at h; cases h
  · rw [k] at h
    cases h
    exact ⟨x, y, hx, hy, hl, k2, k3⟩
theorem cancel {p q f o : Rat} (hf : 0 < f) (h : p * f + o = q * f + o) : p = q := by
  have : p * f = q * f := by grind
  have hn : f ≠ 0 := by grind
  grind
/-- Over a third unit. -/
theorem third {a b c : ByteArray} {vn vd x1 x2 y1 y2 z1 z2 : Int} (hv : Rt vn vd) (hx : convR a b vn vd = (x1, x2, 0)) (hy : convR b c x1 x2 = (y1, y2, 0)) (hz : convR a c vn vd = (z1, z2, 0)) : y1 = z1 ∧ y2 = z2 := by
  obtain ⟨ua, ub, fa, fb, _, rx, ex⟩ := conv_ok hv hx
  obtain ⟨ub2, uc, fb2, fc, _, ry, ey⟩ := conv_ok rx hy
  obtain ⟨ua2, uc2, fa2, fc2, _, rz, ez⟩ := conv_ok hv hz
  rw [fb] at fb2; cases fb2
  rw [fa] at fa2; cases fa2
  rw [fc] at fc2; cases fc2
  refine val_inj ry rz (cancel (f := uc.F) (o := uc.O) (find_good fc).pos ?_)
  rw [ey, ex, ez]
/-- There and back. -/
theorem back {a b : ByteArray} {vn vd x1 x2 y1 y2 : Int} (hv : Rt vn vd) (hx : convR a b vn vd = (x1, x2, 0)) (hy : convR b a x1 x2 = (y1, y2, 0)) : y1 = vn ∧ y2 = vd := by
  obtain ⟨ua, ub, fa, fb, _, rx, ex⟩ := conv_ok hv hx
  obtain ⟨ub2, ua2, fb2, fa2, _, ry, ey⟩ := conv_ok rx hy
  rw [fb] at fb2; cases fb2
  rw [fa] at fa2; cases fa2
  refine val_inj ry hv (cancel (f := ua.F) (o := ua.O) (find_good fa).pos ?_)
  rw [ey, ex]
theorem conv_In {a b : ByteArray} {vn vd : Int} (h1 : I64 vn) (h2 : I64 vd) : In (convR a b vn vd) := by
  have h0 : I64 0 := by decide
  unfold convR
  repeat' split
  all_goals first
    | exact ⟨h0, h0⟩
    | exact ⟨h1, h2⟩
    | exact timesW_In (plusW_In (plusW_In (timesW_In ⟨h1, h2⟩)))
theorem awake_conv : convR ⟨#[102]⟩ ⟨#[99]⟩ 212 1 = (100, 1, 0) := by decide +kernel
end Go.Proofs.Ytcldlfhnmkogeaa.Unit

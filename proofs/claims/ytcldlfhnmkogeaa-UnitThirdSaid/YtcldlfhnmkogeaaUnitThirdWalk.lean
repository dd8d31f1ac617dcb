import Derived.Test.YtcldlfhnmkogeaaUnitLaw
/- The law UnitThird, walked. -/
set_option linter.unusedVariables false
set_option linter.unusedSimpArgs false
namespace Go.Proofs.Ytcldlfhnmkogeaa.UnitThirdWalk
open Go.RowKit Go.Proofs.YtcldlfhnmkogeaaW.PrintWords Go.Proofs.YtcldlfhnmkogeaaW.PrintLast Go.Proofs.Ytcldlfhnmkogeaa.Nats Go.Proofs.Ytcldlfhnmkogeaa.HeapKit Go.Proofs.Ytcldlfhnmkogeaa.RatPlain Go.Proofs.Ytcldlfhnmkogeaa.Scale Go.Proofs.Ytcldlfhnmkogeaa.Unit Go.Proofs.Ytcldlfhnmkogeaa.UnitLaw
set_option maxRecDepth 100000 in
set_option maxHeartbeats 4000000 in
theorem walk (vn vd : Int) (h1 : I64 vn) (h2 : I64 vd) (a b c : ByteArray) (w : World) :
    Calls Try.prog 8 #[.agg #[.int .i64 vn, .int .i64 vd], .string a, .string b, .string c] w fun e w' => e = .returned (.bool true) ∧ Below w.heap.size w w' := by
  have hr := fun w => ref_right_calls h1 h2 w
  obtain ⟨rr, er⟩ : ∃ r, decide (Rt vn vd) = r := ⟨_, rfl⟩
  simp only [er] at hr
  obtain ⟨x1, x2, x3, ex, cx, ix1, ix2⟩ := conv_ex (a := a) (b := b) h1 h2
  obtain ⟨y1, y2, y3, ey, cy, iy1, iy2⟩ := conv_ex (a := b) (b := c) ix1 ix2
  obtain ⟨z1, z2, z3, ez, cz, iz1, iz2⟩ := conv_ex (a := a) (b := c) h1 h2
  have hall : rr = true → x3 = 0 → y3 = 0 → z3 = 0 → y1 = z1 ∧ y2 = z2 := by
    intro k1 k2 k3 k4
    subst k2 k3 k4
    exact third (of_decide_eq_true (er.trans k1)) ex ey ez
  have HR := Lib.hid hr
  have CX := Lib.hid cx
  have CY := Lib.hid cy
  have CZ := Lib.hid cz
  have HA := Lib.hid hall
  clear hr er cx cy cz ex ey ez hall
  have hB := b1_start w (.cells #[.int .i64 vn, .int .i64 vd] 23)
  go_enter Try.func8, Try.ntmps8
  go_wp2_with fail
  refine (awake_calls _).mono ?_
  rintro e w1 ⟨rfl, hb1⟩
  replace hB := hB.step hb1
  clear hb1
  by_cases q0 : ((a.size : Nat) : Int) > 50
  · have t0 : decide (((a.size : Nat) : Int) > 50) = true := decide_eq_true q0
    go_wp2_with fail
    refine (awake_calls _).mono ?_
    rintro e w9 ⟨rfl, hb9⟩
    replace hB := hB.step hb9
    go_wp2_with fail
    go_ret
    exact ⟨rfl, hB.be⟩
  have t0 : decide (((a.size : Nat) : Int) > 50) = false := decide_eq_false q0
  by_cases q1 : ((b.size : Nat) : Int) > 50
  · have t1 : decide (((b.size : Nat) : Int) > 50) = true := decide_eq_true q1
    go_wp2_with fail
    refine (awake_calls _).mono ?_
    rintro e w9 ⟨rfl, hb9⟩
    replace hB := hB.step hb9
    go_wp2_with fail
    go_ret
    exact ⟨rfl, hB.be⟩
  have t1 : decide (((b.size : Nat) : Int) > 50) = false := decide_eq_false q1
  by_cases q2 : ((c.size : Nat) : Int) > 50
  · have t2 : decide (((c.size : Nat) : Int) > 50) = true := decide_eq_true q2
    go_wp2_with fail
    refine (awake_calls _).mono ?_
    rintro e w9 ⟨rfl, hb9⟩
    replace hB := hB.step hb9
    go_wp2_with fail
    go_ret
    exact ⟨rfl, hB.be⟩
  have t2 : decide (((c.size : Nat) : Int) > 50) = false := decide_eq_false q2
  have v0 : w1.cell? ⟨w.heap.size, 0, none⟩ = some (.int .i64 vn) := blk_cell hB.b1 0
  have v1 : w1.cell? ⟨w.heap.size, 1, none⟩ = some (.int .i64 vd) := blk_cell hB.b1 1
  go_wp2_with fail
  refine (HR.out _).mono ?_
  rintro e w2 ⟨rfl, hb2⟩
  replace hB := hB.step hb2
  clear hb2 v0 v1
  cases rr with
  | false =>
    go_wp2_with fail
    refine (awake_calls _).mono ?_
    rintro e w9 ⟨rfl, hb9⟩
    replace hB := hB.step hb9
    go_wp2_with fail
    go_ret
    exact ⟨rfl, hB.be⟩
  | true =>
    have v0 : w2.cell? ⟨w.heap.size, 0, none⟩ = some (.int .i64 vn) := blk_cell hB.b1 0
    have v1 : w2.cell? ⟨w.heap.size, 1, none⟩ = some (.int .i64 vd) := blk_cell hB.b1 1
    go_wp2_with fail
    refine (of02_calls vn vd _).mono ?_
    rintro e w3 ⟨rfl, hb3⟩
    replace hB := hB.step hb3
    clear hb3 v0 v1
    go_wp2_with fail
    refine (CX.out _).mono ?_
    rintro e w4 ⟨rfl, hb4⟩
    replace hB := hB.step hb4
    clear hb4
    have k9 := blk_new w4 (.cells #[.int .i64 x1, .int .i64 x2] 29)
    replace hB := hB.step (below_alloc (Below.refl _ _) (.cells #[.int .i64 x1, .int .i64 x2] 29))
    have c0 : (w4.alloc (.cells #[.int .i64 x1, .int .i64 x2] 29)).cell? ⟨w4.heap.size, 0, none⟩ = some (.int .i64 x1) := blk_cell k9 0
    have c1 : (w4.alloc (.cells #[.int .i64 x1, .int .i64 x2] 29)).cell? ⟨w4.heap.size, 1, none⟩ = some (.int .i64 x2) := blk_cell k9 1
    go_wp2_with fail
    refine (CY.out _).mono ?_
    rintro e w5 ⟨rfl, hb5⟩
    replace hB := hB.step hb5
    clear hb5 c0 c1 k9
    have k11 := blk_new w5 (.cells #[.int .i64 y1, .int .i64 y2] 29)
    replace hB := hB.step (below_alloc (Below.refl _ _) (.cells #[.int .i64 y1, .int .i64 y2] 29))
    have v0 : (w5.alloc (.cells #[.int .i64 y1, .int .i64 y2] 29)).cell? ⟨w.heap.size, 0, none⟩ = some (.int .i64 vn) := blk_cell hB.b1 0
    have v1 : (w5.alloc (.cells #[.int .i64 y1, .int .i64 y2] 29)).cell? ⟨w.heap.size, 1, none⟩ = some (.int .i64 vd) := blk_cell hB.b1 1
    go_wp2_with fail
    refine (of02_calls vn vd _).mono ?_
    rintro e w6 ⟨rfl, hb6⟩
    replace hB := hB.step hb6
    replace k11 := blk_below k11 hb6
    clear hb6 v0 v1
    go_wp2_with fail
    refine (CZ.out _).mono ?_
    rintro e w7 ⟨rfl, hb7⟩
    replace hB := hB.step hb7
    replace k11 := blk_below k11 hb7
    clear hb7
    have k13 := blk_new w7 (.cells #[.int .i64 z1, .int .i64 z2] 29)
    replace k11 := blk_below k11 (below_alloc (Below.refl _ _) (.cells #[.int .i64 z1, .int .i64 z2] 29))
    replace hB := hB.step (below_alloc (Below.refl _ _) (.cells #[.int .i64 z1, .int .i64 z2] 29))
    have c0 : (w7.alloc (.cells #[.int .i64 z1, .int .i64 z2] 29)).cell? ⟨w5.heap.size, 0, none⟩ = some (.int .i64 y1) := blk_cell k11 0
    have c1 : (w7.alloc (.cells #[.int .i64 z1, .int .i64 z2] 29)).cell? ⟨w5.heap.size, 1, none⟩ = some (.int .i64 y2) := blk_cell k11 1
    have d0 : (w7.alloc (.cells #[.int .i64 z1, .int .i64 z2] 29)).cell? ⟨w7.heap.size, 0, none⟩ = some (.int .i64 z1) := blk_cell k13 0
    have d1 : (w7.alloc (.cells #[.int .i64 z1, .int .i64 z2] 29)).cell? ⟨w7.heap.size, 1, none⟩ = some (.int .i64 z2) := blk_cell k13 1
    by_cases n1 : x3 = 0
    · by_cases n2 : y3 = 0
      · by_cases n3 : z3 = 0
        · obtain ⟨g1, g2⟩ := HA.out (by trivial) n1 n2 n3
          subst n1 n2 n3 g1 g2
          go_wp2_with fail
          go_ret
          exact ⟨by simp, hB.be⟩
        · have m3 : (z3 == 0) = false := by simp [n3]
          subst n1 n2
          go_wp2_with fail
          go_ret
          exact ⟨by simp, hB.be⟩
      · have m2 : (y3 == 0) = false := by simp [n2]
        subst n1
        go_wp2_with fail
        go_ret
        exact ⟨by simp, hB.be⟩
    · have m1 : (x3 == 0) = false := by simp [n1]
      go_wp2_with fail
      go_ret
      exact ⟨by simp, hB.be⟩
end Go.Proofs.Ytcldlfhnmkogeaa.UnitThirdWalk

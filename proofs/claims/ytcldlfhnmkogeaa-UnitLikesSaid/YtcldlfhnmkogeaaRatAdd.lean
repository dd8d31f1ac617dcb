import Derived.Test.YtcldlfhnmkogeaaRatMul
/- The sum of two fractions, walked. -/
set_option linter.unusedVariables false
set_option linter.unusedSimpArgs false
namespace Go.Proofs.Ytcldlfhnmkogeaa.RatPlain
open Go.RowKit Go.Proofs.YtcldlfhnmkogeaaW.PrintWords Go.Proofs.YtcldlfhnmkogeaaW.PrintLast Go.Proofs.Ytcldlfhnmkogeaa.Nats Go.Proofs.Ytcldlfhnmkogeaa.HeapKit Go.Proofs.Ytcldlfhnmkogeaa.PAdd

/-- The sum, or none. -/
def addR (an ad bn bd : Int) : Option (Int × Int) :=
  let g : Int := (Int.gcd ad bd : Nat)
  let x := an * bd.tdiv g
  let y := bn * ad.tdiv g
  let d := ad * bd.tdiv g
  if I64 x ∧ I64 y ∧ I64 (x + y) ∧ I64 d then some (low (x + y) d) else none

set_option maxRecDepth 100000 in
set_option maxHeartbeats 2000000 in
theorem add_wrong {an ad bn bd : Int} (h1 : I64 an) (h2 : I64 ad) (h3 : I64 bn) (h4 : I64 bd) (hr : ¬ (Rt an ad ∧ Rt bn bd)) (w : World) :
    Calls Try.prog 45 #[.agg #[.int .i64 an, .int .i64 ad], .agg #[.int .i64 bn, .int .i64 bd]] w fun e w' => e = ans (0, 0, 1) ∧ Below w.heap.size w w' := by
  have hb := both_eq h1 h2 h3 h4 (k := big + 1) (by omega)
  rw [decide_eq_false hr] at hb
  go_enter Try.func45, Try.ntmps45
  go_wp2_with fail
  refine (ratio_both.calls (big + 1) an ad bn bd false _ hb).mono ?_
  rintro e w1 ⟨rfl, hb1⟩
  have hB := (b3_start w (.cells #[.int .i64 an, .int .i64 ad] 29) (.cells #[.int .i64 bn, .int .i64 bd] 29) (.cells #[.int .i64 0, .int .i64 0] 29)).step hb1
  clear hb1
  have hx_ := hB.b3
  have d_0 : w1.cell? ⟨w.heap.size + 1 + 1, 0, none⟩ = some (.int .i64 0) := blk_cell hx_ 0
  have df_0 : w1.frozen? ⟨w.heap.size + 1 + 1, 0, none⟩ = false := blk_frozen hx_ 0
  have d_1 : w1.cell? ⟨w.heap.size + 1 + 1, 1, none⟩ = some (.int .i64 0) := blk_cell hx_ 1
  have df_1 : w1.frozen? ⟨w.heap.size + 1 + 1, 1, none⟩ = false := blk_frozen hx_ 1
  go_wp2_with fail
  have k_ := (blk_set (blk_set hx_ 0 (.int .i64 0)) 1 (.int .i64 0))
  have hB_ := (Below.setCell (Below.setCell hB.be (p := ⟨w.heap.size + 1 + 1, 0, none⟩) ((by show w.heap.size ≤ w.heap.size + 1 + 1; omega)) (.int .i64 0)) (p := ⟨w.heap.size + 1 + 1, 1, none⟩) ((by show w.heap.size ≤ w.heap.size + 1 + 1; omega)) (.int .i64 0))
  obtain ⟨w_, hw_⟩ : ∃ w_, w_ = (World.setCell (World.setCell w1 ⟨w.heap.size + 1 + 1, 0, none⟩ (.int .i64 0)) ⟨w.heap.size + 1 + 1, 1, none⟩ (.int .i64 0)) := ⟨_, rfl⟩
  rw [← hw_] at k_ hB_
  try rw [← hw_]
  clear hw_
  have s_0 : w_.cell? ⟨w.heap.size + 1 + 1, 0, none⟩ = some (.int .i64 0) := blk_cell k_ 0
  have s_1 : w_.cell? ⟨w.heap.size + 1 + 1, 1, none⟩ = some (.int .i64 0) := blk_cell k_ 1
  refine bodyPost_ret (by simp [results, Try.results45, go_sem, s_0, s_1]; try rfl) rfl ?_
  exact ⟨rfl, hB_⟩

/-- A watched number: what it is, whether it is within. -/
theorem watch (x : Int) : ∃ n o, watched x = (n, o) ∧ (o = true → I64 x ∧ n = x) ∧ (o = false → ¬ I64 x) := by
  by_cases h : I64 x
  · exact ⟨x, true, watched_yes h, fun _ => ⟨h, rfl⟩, fun e => by cases e⟩
  · exact ⟨0, false, watched_no h, fun e => (by cases e), fun _ => h⟩

set_option maxRecDepth 100000 in
set_option maxHeartbeats 4000000 in
theorem add_right {an ad bn bd : Int} (h1 : I64 an) (h2 : I64 ad) (h3 : I64 bn) (h4 : I64 bd) (ra : Rt an ad) (rb : Rt bn bd) (w : World) :
    Calls Try.prog 45 #[.agg #[.int .i64 an, .int .i64 ad], .agg #[.int .i64 bn, .int .i64 bd]] w fun e w' => e = ans (told True (addR an ad bn bd)) ∧ Below w.heap.size w w' := by
  have hb := both_eq h1 h2 h3 h4 (k := big + 1) (by omega)
  rw [decide_eq_true (And.intro ra rb)] at hb
  have hs1 := shared_eq h2 h4 rb.1 (k := big + 1) (by omega)
  obtain ⟨sa, hsa⟩ : ∃ x, ad.tdiv (Int.gcd ad bd : Nat) = x := ⟨_, rfl⟩
  obtain ⟨sb, hsb⟩ : ∃ x, bd.tdiv (Int.gcd ad bd : Nat) = x := ⟨_, rfl⟩
  rw [hsa, hsb] at hs1
  have hM : addR an ad bn bd = if I64 (an * sb) ∧ I64 (bn * sa) ∧ I64 (an * sb + bn * sa) ∧ I64 (ad * sb) then some (low (an * sb + bn * sa) (ad * sb)) else none := by
    unfold addR
    simp only [hsa, hsb]
  have i1 : I64 sa := by rw [← hsa]; exact h2.tdiv (gcd_pos rb.1)
  have i2 : I64 sb := by rw [← hsb]; exact h4.tdiv (gcd_pos rb.1)
  have hpos : 0 < ad * sb := by
    rw [← hsb]
    exact Int.mul_pos ra.1 (exact_pos rb.1 (dvd_right _ _) (gcd_pos rb.1))
  obtain ⟨M, hMM⟩ : ∃ M, addR an ad bn bd = M := ⟨_, rfl⟩
  rw [hMM] at hM ⊢
  have HM := Lib.hid hM
  clear hM hMM hsa hsb
  obtain ⟨x, ox, ex, fx, gx⟩ := watch (an * sb)
  obtain ⟨y, oy, ey, fy, gy⟩ := watch (bn * sa)
  have j1 : I64 x := by have := watched_I64 (an * sb); rwa [ex] at this
  have j2 : I64 y := by have := watched_I64 (bn * sa); rwa [ey] at this
  obtain ⟨n, os, en, fn, gn⟩ := watch (x + y)
  obtain ⟨d, od, ed, fd, gd⟩ := watch (ad * sb)
  have m1 := mul_eq h1 i2 (k := big + 1) (by omega)
  have m2 := mul_eq h3 i1 (k := big + 1) (by omega)
  have m3 := add_eq j1 j2
  have m4 := mul_eq h2 i2 (k := big + 1) (by omega)
  rw [ex] at m1
  rw [ey] at m2
  rw [en] at m3
  rw [ed] at m4
  have FX := Lib.hid fx
  have FY := Lib.hid fy
  have FN := Lib.hid fn
  have FD := Lib.hid fd
  have GX := Lib.hid gx
  have GY := Lib.hid gy
  have GN := Lib.hid gn
  have GD := Lib.hid gd
  clear fx fy fn fd gx gy gn gd ex ey en ed
  go_enter Try.func45, Try.ntmps45
  go_wp2_with fail
  refine (ratio_both.calls (big + 1) an ad bn bd true _ hb).mono ?_
  rintro e w1 ⟨rfl, hb1⟩
  have hB := (b3_start w (.cells #[.int .i64 an, .int .i64 ad] 29) (.cells #[.int .i64 bn, .int .i64 bd] 29) (.cells #[.int .i64 0, .int .i64 0] 29)).step hb1
  clear hb1
  have a0 : w1.cell? ⟨w.heap.size, 0, none⟩ = some (.int .i64 an) := blk_cell hB.b1 0
  have a1 : w1.cell? ⟨w.heap.size, 1, none⟩ = some (.int .i64 ad) := blk_cell hB.b1 1
  have b0 : w1.cell? ⟨w.heap.size + 1, 0, none⟩ = some (.int .i64 bn) := blk_cell hB.b2 0
  have b1 : w1.cell? ⟨w.heap.size + 1, 1, none⟩ = some (.int .i64 bd) := blk_cell hB.b2 1
  go_wp2_with fail
  refine (ratio_shared.calls (big + 1) ad bd sa sb _ hs1).mono ?_
  rintro e w2 ⟨rfl, hb2⟩
  replace hB := hB.step hb2
  clear hb2 a0 a1 b0 b1
  have hw2 := hB.size
  replace hB := hB.step (below_alloc (Below.refl _ _) (.cells #[.int .i64 sa, .int .i64 sb] 130))
  have kx := blk_new w2 (.cells #[.int .i64 sa, .int .i64 sb] 130)
  have a0 : (w2.alloc (.cells #[.int .i64 sa, .int .i64 sb] 130)).cell? ⟨w.heap.size, 0, none⟩ = some (.int .i64 an) := blk_cell hB.b1 0
  have a1 : (w2.alloc (.cells #[.int .i64 sa, .int .i64 sb] 130)).cell? ⟨w.heap.size, 1, none⟩ = some (.int .i64 ad) := blk_cell hB.b1 1
  have b0 : (w2.alloc (.cells #[.int .i64 sa, .int .i64 sb] 130)).cell? ⟨w.heap.size + 1, 0, none⟩ = some (.int .i64 bn) := blk_cell hB.b2 0
  have b1 : (w2.alloc (.cells #[.int .i64 sa, .int .i64 sb] 130)).cell? ⟨w.heap.size + 1, 1, none⟩ = some (.int .i64 bd) := blk_cell hB.b2 1
  have c0 : (w2.alloc (.cells #[.int .i64 sa, .int .i64 sb] 130)).cell? ⟨w2.heap.size, 0, none⟩ = some (.int .i64 sa) := blk_cell kx 0
  have c1 : (w2.alloc (.cells #[.int .i64 sa, .int .i64 sb] 130)).cell? ⟨w2.heap.size, 1, none⟩ = some (.int .i64 sb) := blk_cell kx 1
  go_wp2_with fail
  refine (whole_Mul.calls (big + 1) an sb x ox _ m1).mono ?_
  rintro e w3 ⟨rfl, hb_⟩
  replace hB := hB.step hb_.below
  replace kx := blk_below kx hb_.below
  clear hb_ a0 a1 b0 b1 c0 c1
  have a0 : w3.cell? ⟨w.heap.size, 0, none⟩ = some (.int .i64 an) := blk_cell hB.b1 0
  have a1 : w3.cell? ⟨w.heap.size, 1, none⟩ = some (.int .i64 ad) := blk_cell hB.b1 1
  have b0 : w3.cell? ⟨w.heap.size + 1, 0, none⟩ = some (.int .i64 bn) := blk_cell hB.b2 0
  have b1 : w3.cell? ⟨w.heap.size + 1, 1, none⟩ = some (.int .i64 bd) := blk_cell hB.b2 1
  have c0 : w3.cell? ⟨w2.heap.size, 0, none⟩ = some (.int .i64 sa) := blk_cell kx 0
  have c1 : w3.cell? ⟨w2.heap.size, 1, none⟩ = some (.int .i64 sb) := blk_cell kx 1
  go_wp2_with fail
  refine (whole_Mul.calls (big + 1) bn sa y oy _ m2).mono ?_
  rintro e w4 ⟨rfl, hb_⟩
  replace hB := hB.step hb_.below
  replace kx := blk_below kx hb_.below
  clear hb_ a0 a1 b0 b1 c0 c1
  have a0 : w4.cell? ⟨w.heap.size, 0, none⟩ = some (.int .i64 an) := blk_cell hB.b1 0
  have a1 : w4.cell? ⟨w.heap.size, 1, none⟩ = some (.int .i64 ad) := blk_cell hB.b1 1
  have b0 : w4.cell? ⟨w.heap.size + 1, 0, none⟩ = some (.int .i64 bn) := blk_cell hB.b2 0
  have b1 : w4.cell? ⟨w.heap.size + 1, 1, none⟩ = some (.int .i64 bd) := blk_cell hB.b2 1
  have c0 : w4.cell? ⟨w2.heap.size, 0, none⟩ = some (.int .i64 sa) := blk_cell kx 0
  have c1 : w4.cell? ⟨w2.heap.size, 1, none⟩ = some (.int .i64 sb) := blk_cell kx 1
  go_wp2_with fail
  refine (whole_Add.calls x y n os _ m3).mono ?_
  rintro e w5 ⟨rfl, hb_⟩
  replace hB := hB.step hb_.below
  replace kx := blk_below kx hb_.below
  clear hb_ a0 a1 b0 b1 c0 c1
  have a0 : w5.cell? ⟨w.heap.size, 0, none⟩ = some (.int .i64 an) := blk_cell hB.b1 0
  have a1 : w5.cell? ⟨w.heap.size, 1, none⟩ = some (.int .i64 ad) := blk_cell hB.b1 1
  have b0 : w5.cell? ⟨w.heap.size + 1, 0, none⟩ = some (.int .i64 bn) := blk_cell hB.b2 0
  have b1 : w5.cell? ⟨w.heap.size + 1, 1, none⟩ = some (.int .i64 bd) := blk_cell hB.b2 1
  have c0 : w5.cell? ⟨w2.heap.size, 0, none⟩ = some (.int .i64 sa) := blk_cell kx 0
  have c1 : w5.cell? ⟨w2.heap.size, 1, none⟩ = some (.int .i64 sb) := blk_cell kx 1
  go_wp2_with fail
  refine (whole_Mul.calls (big + 1) ad sb d od _ m4).mono ?_
  rintro e w6 ⟨rfl, hb_⟩
  replace hB := hB.step hb_.below
  replace kx := blk_below kx hb_.below
  clear hb_ a0 a1 b0 b1 c0 c1
  have a0 : w6.cell? ⟨w.heap.size, 0, none⟩ = some (.int .i64 an) := blk_cell hB.b1 0
  have a1 : w6.cell? ⟨w.heap.size, 1, none⟩ = some (.int .i64 ad) := blk_cell hB.b1 1
  have b0 : w6.cell? ⟨w.heap.size + 1, 0, none⟩ = some (.int .i64 bn) := blk_cell hB.b2 0
  have b1 : w6.cell? ⟨w.heap.size + 1, 1, none⟩ = some (.int .i64 bd) := blk_cell hB.b2 1
  have c0 : w6.cell? ⟨w2.heap.size, 0, none⟩ = some (.int .i64 sa) := blk_cell kx 0
  have c1 : w6.cell? ⟨w2.heap.size, 1, none⟩ = some (.int .i64 sb) := blk_cell kx 1
  clear a0 a1 b0 b1 c0 c1 kx hw2
  cases ox with
  | false =>
    have hx_ := hB.b3
    have d_0 : w6.cell? ⟨w.heap.size + 1 + 1, 0, none⟩ = some (.int .i64 0) := blk_cell hx_ 0
    have df_0 : w6.frozen? ⟨w.heap.size + 1 + 1, 0, none⟩ = false := blk_frozen hx_ 0
    have d_1 : w6.cell? ⟨w.heap.size + 1 + 1, 1, none⟩ = some (.int .i64 0) := blk_cell hx_ 1
    have df_1 : w6.frozen? ⟨w.heap.size + 1 + 1, 1, none⟩ = false := blk_frozen hx_ 1
    go_wp2_with fail
    have k_ := (blk_set (blk_set hx_ 0 (.int .i64 0)) 1 (.int .i64 0))
    have hB_ := (Below.setCell (Below.setCell hB.be (p := ⟨w.heap.size + 1 + 1, 0, none⟩) ((by show w.heap.size ≤ w.heap.size + 1 + 1; omega)) (.int .i64 0)) (p := ⟨w.heap.size + 1 + 1, 1, none⟩) ((by show w.heap.size ≤ w.heap.size + 1 + 1; omega)) (.int .i64 0))
    obtain ⟨w_, hw_⟩ : ∃ w_, w_ = (World.setCell (World.setCell w6 ⟨w.heap.size + 1 + 1, 0, none⟩ (.int .i64 0)) ⟨w.heap.size + 1 + 1, 1, none⟩ (.int .i64 0)) := ⟨_, rfl⟩
    rw [← hw_] at k_ hB_
    try rw [← hw_]
    clear hw_
    have s_0 : w_.cell? ⟨w.heap.size + 1 + 1, 0, none⟩ = some (.int .i64 0) := blk_cell k_ 0
    have s_1 : w_.cell? ⟨w.heap.size + 1 + 1, 1, none⟩ = some (.int .i64 0) := blk_cell k_ 1
    refine bodyPost_ret (by simp [results, Try.results45, go_sem, s_0, s_1]; try rfl) rfl ?_
    rw [HM.out, if_neg (fun h => GX.out (by trivial) h.1)]
    exact ⟨rfl, hB_⟩
  | true =>
    cases oy with
    | false =>
      have hx_ := hB.b3
      have d_0 : w6.cell? ⟨w.heap.size + 1 + 1, 0, none⟩ = some (.int .i64 0) := blk_cell hx_ 0
      have df_0 : w6.frozen? ⟨w.heap.size + 1 + 1, 0, none⟩ = false := blk_frozen hx_ 0
      have d_1 : w6.cell? ⟨w.heap.size + 1 + 1, 1, none⟩ = some (.int .i64 0) := blk_cell hx_ 1
      have df_1 : w6.frozen? ⟨w.heap.size + 1 + 1, 1, none⟩ = false := blk_frozen hx_ 1
      go_wp2_with fail
      have k_ := (blk_set (blk_set hx_ 0 (.int .i64 0)) 1 (.int .i64 0))
      have hB_ := (Below.setCell (Below.setCell hB.be (p := ⟨w.heap.size + 1 + 1, 0, none⟩) ((by show w.heap.size ≤ w.heap.size + 1 + 1; omega)) (.int .i64 0)) (p := ⟨w.heap.size + 1 + 1, 1, none⟩) ((by show w.heap.size ≤ w.heap.size + 1 + 1; omega)) (.int .i64 0))
      obtain ⟨w_, hw_⟩ : ∃ w_, w_ = (World.setCell (World.setCell w6 ⟨w.heap.size + 1 + 1, 0, none⟩ (.int .i64 0)) ⟨w.heap.size + 1 + 1, 1, none⟩ (.int .i64 0)) := ⟨_, rfl⟩
      rw [← hw_] at k_ hB_
      try rw [← hw_]
      clear hw_
      have s_0 : w_.cell? ⟨w.heap.size + 1 + 1, 0, none⟩ = some (.int .i64 0) := blk_cell k_ 0
      have s_1 : w_.cell? ⟨w.heap.size + 1 + 1, 1, none⟩ = some (.int .i64 0) := blk_cell k_ 1
      refine bodyPost_ret (by simp [results, Try.results45, go_sem, s_0, s_1]; try rfl) rfl ?_
      rw [HM.out, if_neg (fun h => GY.out (by trivial) h.2.1)]
      exact ⟨rfl, hB_⟩
    | true =>
      cases os with
      | false =>
        have hx_ := hB.b3
        have d_0 : w6.cell? ⟨w.heap.size + 1 + 1, 0, none⟩ = some (.int .i64 0) := blk_cell hx_ 0
        have df_0 : w6.frozen? ⟨w.heap.size + 1 + 1, 0, none⟩ = false := blk_frozen hx_ 0
        have d_1 : w6.cell? ⟨w.heap.size + 1 + 1, 1, none⟩ = some (.int .i64 0) := blk_cell hx_ 1
        have df_1 : w6.frozen? ⟨w.heap.size + 1 + 1, 1, none⟩ = false := blk_frozen hx_ 1
        go_wp2_with fail
        have k_ := (blk_set (blk_set hx_ 0 (.int .i64 0)) 1 (.int .i64 0))
        have hB_ := (Below.setCell (Below.setCell hB.be (p := ⟨w.heap.size + 1 + 1, 0, none⟩) ((by show w.heap.size ≤ w.heap.size + 1 + 1; omega)) (.int .i64 0)) (p := ⟨w.heap.size + 1 + 1, 1, none⟩) ((by show w.heap.size ≤ w.heap.size + 1 + 1; omega)) (.int .i64 0))
        obtain ⟨w_, hw_⟩ : ∃ w_, w_ = (World.setCell (World.setCell w6 ⟨w.heap.size + 1 + 1, 0, none⟩ (.int .i64 0)) ⟨w.heap.size + 1 + 1, 1, none⟩ (.int .i64 0)) := ⟨_, rfl⟩
        rw [← hw_] at k_ hB_
        try rw [← hw_]
        clear hw_
        have s_0 : w_.cell? ⟨w.heap.size + 1 + 1, 0, none⟩ = some (.int .i64 0) := blk_cell k_ 0
        have s_1 : w_.cell? ⟨w.heap.size + 1 + 1, 1, none⟩ = some (.int .i64 0) := blk_cell k_ 1
        refine bodyPost_ret (by simp [results, Try.results45, go_sem, s_0, s_1]; try rfl) rfl ?_
        rw [HM.out, if_neg (fun h => GN.out (by trivial) (by rw [(FX.out (by trivial)).2, (FY.out (by trivial)).2]; exact h.2.2.1))]
        exact ⟨rfl, hB_⟩
      | true =>
        cases od with
        | false =>
          have hx_ := hB.b3
          have d_0 : w6.cell? ⟨w.heap.size + 1 + 1, 0, none⟩ = some (.int .i64 0) := blk_cell hx_ 0
          have df_0 : w6.frozen? ⟨w.heap.size + 1 + 1, 0, none⟩ = false := blk_frozen hx_ 0
          have d_1 : w6.cell? ⟨w.heap.size + 1 + 1, 1, none⟩ = some (.int .i64 0) := blk_cell hx_ 1
          have df_1 : w6.frozen? ⟨w.heap.size + 1 + 1, 1, none⟩ = false := blk_frozen hx_ 1
          go_wp2_with fail
          have k_ := (blk_set (blk_set hx_ 0 (.int .i64 0)) 1 (.int .i64 0))
          have hB_ := (Below.setCell (Below.setCell hB.be (p := ⟨w.heap.size + 1 + 1, 0, none⟩) ((by show w.heap.size ≤ w.heap.size + 1 + 1; omega)) (.int .i64 0)) (p := ⟨w.heap.size + 1 + 1, 1, none⟩) ((by show w.heap.size ≤ w.heap.size + 1 + 1; omega)) (.int .i64 0))
          obtain ⟨w_, hw_⟩ : ∃ w_, w_ = (World.setCell (World.setCell w6 ⟨w.heap.size + 1 + 1, 0, none⟩ (.int .i64 0)) ⟨w.heap.size + 1 + 1, 1, none⟩ (.int .i64 0)) := ⟨_, rfl⟩
          rw [← hw_] at k_ hB_
          try rw [← hw_]
          clear hw_
          have s_0 : w_.cell? ⟨w.heap.size + 1 + 1, 0, none⟩ = some (.int .i64 0) := blk_cell k_ 0
          have s_1 : w_.cell? ⟨w.heap.size + 1 + 1, 1, none⟩ = some (.int .i64 0) := blk_cell k_ 1
          refine bodyPost_ret (by simp [results, Try.results45, go_sem, s_0, s_1]; try rfl) rfl ?_
          rw [HM.out, if_neg (fun h => GD.out (by trivial) h.2.2.2)]
          exact ⟨rfl, hB_⟩
        | true =>
          have kn : I64 n := by rw [(FN.out (by trivial)).2]; exact (FN.out (by trivial)).1
          have kd : I64 d := by rw [(FD.out (by trivial)).2]; exact (FD.out (by trivial)).1
          have kp : 0 < d := by rw [(FD.out (by trivial)).2]; exact hpos
          go_wp2_with fail
          refine (make_calls kn kd kp _).mono ?_
          rintro e w7 ⟨rfl, hb7⟩
          replace hB := hB.step hb7
          clear hb7
          have hx_ := hB.b3
          have d_0 : w7.cell? ⟨w.heap.size + 1 + 1, 0, none⟩ = some (.int .i64 0) := blk_cell hx_ 0
          have df_0 : w7.frozen? ⟨w.heap.size + 1 + 1, 0, none⟩ = false := blk_frozen hx_ 0
          have d_1 : w7.cell? ⟨w.heap.size + 1 + 1, 1, none⟩ = some (.int .i64 0) := blk_cell hx_ 1
          have df_1 : w7.frozen? ⟨w.heap.size + 1 + 1, 1, none⟩ = false := blk_frozen hx_ 1
          go_wp2_with fail
          have k_ := (blk_set (blk_set hx_ 0 (.int .i64 (low n d).1)) 1 (.int .i64 (low n d).2))
          have hB_ := (Below.setCell (Below.setCell hB.be (p := ⟨w.heap.size + 1 + 1, 0, none⟩) ((by show w.heap.size ≤ w.heap.size + 1 + 1; omega)) (.int .i64 (low n d).1)) (p := ⟨w.heap.size + 1 + 1, 1, none⟩) ((by show w.heap.size ≤ w.heap.size + 1 + 1; omega)) (.int .i64 (low n d).2))
          obtain ⟨w_, hw_⟩ : ∃ w_, w_ = (World.setCell (World.setCell w7 ⟨w.heap.size + 1 + 1, 0, none⟩ (.int .i64 (low n d).1)) ⟨w.heap.size + 1 + 1, 1, none⟩ (.int .i64 (low n d).2)) := ⟨_, rfl⟩
          rw [← hw_] at k_ hB_
          try rw [← hw_]
          clear hw_
          have s_0 : w_.cell? ⟨w.heap.size + 1 + 1, 0, none⟩ = some (.int .i64 (low n d).1) := blk_cell k_ 0
          have s_1 : w_.cell? ⟨w.heap.size + 1 + 1, 1, none⟩ = some (.int .i64 (low n d).2) := blk_cell k_ 1
          refine bodyPost_ret (by simp [results, Try.results45, go_sem, s_0, s_1]; try rfl) rfl ?_
          have en : n = an * sb + bn * sa := by rw [(FN.out (by trivial)).2, (FX.out (by trivial)).2, (FY.out (by trivial)).2]
          have hn := (FN.out (by trivial)).1
          rw [(FX.out (by trivial)).2, (FY.out (by trivial)).2] at hn
          rw [HM.out, if_pos ⟨(FX.out (by trivial)).1, (FY.out (by trivial)).1, hn, (FD.out (by trivial)).1⟩, ← en, ← (FD.out (by trivial)).2]
          exact ⟨rfl, hB_⟩

/-- The sum: what is answered, whatever comes in. -/
theorem add_calls {an ad bn bd : Int} (h1 : I64 an) (h2 : I64 ad) (h3 : I64 bn) (h4 : I64 bd) (w : World) :
    Calls Try.prog 45 #[.agg #[.int .i64 an, .int .i64 ad], .agg #[.int .i64 bn, .int .i64 bd]] w fun e w' => e = ans (told (Rt an ad ∧ Rt bn bd) (addR an ad bn bd)) ∧ Below w.heap.size w w' := by
  by_cases h : Rt an ad ∧ Rt bn bd
  · refine (add_right h1 h2 h3 h4 h.1 h.2 w).mono ?_
    rintro e w' ⟨rfl, hb⟩
    exact ⟨by simp [told, h], hb⟩
  · refine (add_wrong h1 h2 h3 h4 h w).mono ?_
    rintro e w' ⟨rfl, hb⟩
    exact ⟨by simp [told, h], hb⟩
end Go.Proofs.Ytcldlfhnmkogeaa.RatPlain

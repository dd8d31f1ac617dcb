import Derived.Test.YtcldlfhnmkogeaaRatAdd
/- A value on its way (scale.way), walked. -/
set_option linter.unusedVariables false
set_option linter.unusedSimpArgs false
namespace Go.Proofs.Ytcldlfhnmkogeaa.Scale
open Go.RowKit Go.Proofs.YtcldlfhnmkogeaaW.PrintWords Go.Proofs.YtcldlfhnmkogeaaW.PrintLast Go.Proofs.Ytcldlfhnmkogeaa.Nats Go.Proofs.Ytcldlfhnmkogeaa.HeapKit Go.Proofs.Ytcldlfhnmkogeaa.PAdd Go.Proofs.Ytcldlfhnmkogeaa.RatPlain

/-- A way's cells as they are answered. -/
def way (r : Int × Int × Int) : Ending := .returned (.agg #[.int .i64 r.1, .int .i64 r.2.1, .int .i64 r.2.2])

set_option maxRecDepth 100000 in
set_option maxHeartbeats 2000000 in
theorem times_off {n d e bn bd : Int} (he : e ≠ 0) (w : World) :
    Calls Try.prog 53 #[.agg #[.int .i64 n, .int .i64 d, .int .i64 e], .agg #[.int .i64 bn, .int .i64 bd]] w fun x w' => x = way (n, d, e) ∧ Below w.heap.size w w' := by
  have t1 : (e == 0) = false := by simp [he]
  have hB := b3_start w (.cells #[.int .i64 n, .int .i64 d, .int .i64 e] 93) (.cells #[.int .i64 bn, .int .i64 bd] 29) (.cells #[.int .i64 0, .int .i64 0, .int .i64 0] 93)
  have hx0 := hB.b3
  go_enter Try.func53, Try.ntmps53
  have a0 : (((w.alloc (.cells #[.int .i64 n, .int .i64 d, .int .i64 e] 93)).alloc (.cells #[.int .i64 bn, .int .i64 bd] 29)).alloc (.cells #[.int .i64 0, .int .i64 0, .int .i64 0] 93)).cell? ⟨w.heap.size, 0, none⟩ = some (.int .i64 n) := blk_cell hB.b1 0
  have a1 : (((w.alloc (.cells #[.int .i64 n, .int .i64 d, .int .i64 e] 93)).alloc (.cells #[.int .i64 bn, .int .i64 bd] 29)).alloc (.cells #[.int .i64 0, .int .i64 0, .int .i64 0] 93)).cell? ⟨w.heap.size, 1, none⟩ = some (.int .i64 d) := blk_cell hB.b1 1
  have a2 : (((w.alloc (.cells #[.int .i64 n, .int .i64 d, .int .i64 e] 93)).alloc (.cells #[.int .i64 bn, .int .i64 bd] 29)).alloc (.cells #[.int .i64 0, .int .i64 0, .int .i64 0] 93)).cell? ⟨w.heap.size, 2, none⟩ = some (.int .i64 e) := blk_cell hB.b1 2
  have b0 : (((w.alloc (.cells #[.int .i64 n, .int .i64 d, .int .i64 e] 93)).alloc (.cells #[.int .i64 bn, .int .i64 bd] 29)).alloc (.cells #[.int .i64 0, .int .i64 0, .int .i64 0] 93)).cell? ⟨w.heap.size + 1, 0, none⟩ = some (.int .i64 bn) := blk_cell hB.b2 0
  have b1 : (((w.alloc (.cells #[.int .i64 n, .int .i64 d, .int .i64 e] 93)).alloc (.cells #[.int .i64 bn, .int .i64 bd] 29)).alloc (.cells #[.int .i64 0, .int .i64 0, .int .i64 0] 93)).cell? ⟨w.heap.size + 1, 1, none⟩ = some (.int .i64 bd) := blk_cell hB.b2 1
  go_wp2_with fail
  have hR := b3_start w (.cells #[.int .i64 n, .int .i64 d, .int .i64 e] 93) (.cells #[.int .i64 bn, .int .i64 bd] 29) (.cells #[.int .i64 n, .int .i64 d, .int .i64 e] 93)
  obtain ⟨w_, hw_⟩ : ∃ w_, w_ = (((w.alloc (.cells #[.int .i64 n, .int .i64 d, .int .i64 e] 93)).alloc (.cells #[.int .i64 bn, .int .i64 bd] 29)).alloc (.cells #[.int .i64 n, .int .i64 d, .int .i64 e] 93)) := ⟨_, rfl⟩
  rw [← hw_] at hR ⊢
  clear hw_
  have s0 : w_.cell? ⟨w.heap.size + 1 + 1, 0, none⟩ = some (.int .i64 n) := blk_cell hR.b3 0
  have s1 : w_.cell? ⟨w.heap.size + 1 + 1, 1, none⟩ = some (.int .i64 d) := blk_cell hR.b3 1
  have s2 : w_.cell? ⟨w.heap.size + 1 + 1, 2, none⟩ = some (.int .i64 e) := blk_cell hR.b3 2
  refine bodyPost_ret (by simp [results, Try.results53, go_sem, s0, s1, s2]; try rfl) rfl ?_
  exact ⟨rfl, hR.be⟩

set_option maxRecDepth 100000 in
set_option maxHeartbeats 2000000 in
theorem times_on {n d bn bd : Int} (h1 : I64 n) (h2 : I64 d) (h3 : I64 bn) (h4 : I64 bd) (w : World) :
    Calls Try.prog 53 #[.agg #[.int .i64 n, .int .i64 d, .int .i64 0], .agg #[.int .i64 bn, .int .i64 bd]] w fun x w' => x = way (told (Rt n d ∧ Rt bn bd) (mulR n d bn bd)) ∧ Below w.heap.size w w' := by
  obtain ⟨M, hMM⟩ : ∃ M, told (Rt n d ∧ Rt bn bd) (mulR n d bn bd) = M := ⟨_, rfl⟩
  have hc := fun w => mul_calls h1 h2 h3 h4 w
  rw [hMM]
  simp only [hMM] at hc
  clear hMM
  obtain ⟨r1, r2, r3⟩ := M
  simp only [ans] at hc
  have HC := Lib.hid hc
  clear hc
  go_enter Try.func53, Try.ntmps53
  go_wp2_with fail
  refine (HC.out _).mono ?_
  rintro e w1 ⟨rfl, hb1⟩
  have hB := (b3_start w (.cells #[.int .i64 n, .int .i64 d, .int .i64 0] 93) (.cells #[.int .i64 bn, .int .i64 bd] 29) (.cells #[.int .i64 0, .int .i64 0, .int .i64 0] 93)).step hb1
  clear hb1
  have hw1 := hB.size
  replace hB := hB.step (below_alloc (Below.refl _ _) (.cells #[.int .i64 r1, .int .i64 r2] 29))
  have kx := blk_new w1 (.cells #[.int .i64 r1, .int .i64 r2] 29)
  have c0 : (w1.alloc (.cells #[.int .i64 r1, .int .i64 r2] 29)).cell? ⟨w1.heap.size, 0, none⟩ = some (.int .i64 r1) := blk_cell kx 0
  have c1 : (w1.alloc (.cells #[.int .i64 r1, .int .i64 r2] 29)).cell? ⟨w1.heap.size, 1, none⟩ = some (.int .i64 r2) := blk_cell kx 1
  have hx_ := hB.b3
  have d_0 : (w1.alloc (.cells #[.int .i64 r1, .int .i64 r2] 29)).cell? ⟨w.heap.size + 1 + 1, 0, none⟩ = some (.int .i64 0) := blk_cell hx_ 0
  have df_0 : (w1.alloc (.cells #[.int .i64 r1, .int .i64 r2] 29)).frozen? ⟨w.heap.size + 1 + 1, 0, none⟩ = false := blk_frozen hx_ 0
  have d_1 : (w1.alloc (.cells #[.int .i64 r1, .int .i64 r2] 29)).cell? ⟨w.heap.size + 1 + 1, 1, none⟩ = some (.int .i64 0) := blk_cell hx_ 1
  have df_1 : (w1.alloc (.cells #[.int .i64 r1, .int .i64 r2] 29)).frozen? ⟨w.heap.size + 1 + 1, 1, none⟩ = false := blk_frozen hx_ 1
  have d_2 : (w1.alloc (.cells #[.int .i64 r1, .int .i64 r2] 29)).cell? ⟨w.heap.size + 1 + 1, 2, none⟩ = some (.int .i64 0) := blk_cell hx_ 2
  have df_2 : (w1.alloc (.cells #[.int .i64 r1, .int .i64 r2] 29)).frozen? ⟨w.heap.size + 1 + 1, 2, none⟩ = false := blk_frozen hx_ 2
  go_wp2_with fail
  have k_ := (blk_set (blk_set (blk_set hx_ 0 (.int .i64 r1)) 1 (.int .i64 r2)) 2 (.int .i64 r3))
  have hB_ := (Below.setCell (Below.setCell (Below.setCell hB.be (p := ⟨w.heap.size + 1 + 1, 0, none⟩) ((by show w.heap.size ≤ w.heap.size + 1 + 1; omega)) (.int .i64 r1)) (p := ⟨w.heap.size + 1 + 1, 1, none⟩) ((by show w.heap.size ≤ w.heap.size + 1 + 1; omega)) (.int .i64 r2)) (p := ⟨w.heap.size + 1 + 1, 2, none⟩) ((by show w.heap.size ≤ w.heap.size + 1 + 1; omega)) (.int .i64 r3))
  obtain ⟨w_, hw_⟩ : ∃ w_, w_ = (World.setCell (World.setCell (World.setCell (w1.alloc (.cells #[.int .i64 r1, .int .i64 r2] 29)) ⟨w.heap.size + 1 + 1, 0, none⟩ (.int .i64 r1)) ⟨w.heap.size + 1 + 1, 1, none⟩ (.int .i64 r2)) ⟨w.heap.size + 1 + 1, 2, none⟩ (.int .i64 r3)) := ⟨_, rfl⟩
  rw [← hw_] at k_ hB_
  try rw [← hw_]
  clear hw_
  have s_0 : w_.cell? ⟨w.heap.size + 1 + 1, 0, none⟩ = some (.int .i64 r1) := blk_cell k_ 0
  have s_1 : w_.cell? ⟨w.heap.size + 1 + 1, 1, none⟩ = some (.int .i64 r2) := blk_cell k_ 1
  have s_2 : w_.cell? ⟨w.heap.size + 1 + 1, 2, none⟩ = some (.int .i64 r3) := blk_cell k_ 2
  refine bodyPost_ret (by simp [results, Try.results53, go_sem, s_0, s_1, s_2]; try rfl) rfl ?_
  exact ⟨rfl, hB_⟩

set_option maxRecDepth 100000 in
set_option maxHeartbeats 2000000 in
theorem plus_off {n d e bn bd : Int} (he : e ≠ 0) (w : World) :
    Calls Try.prog 54 #[.agg #[.int .i64 n, .int .i64 d, .int .i64 e], .agg #[.int .i64 bn, .int .i64 bd]] w fun x w' => x = way (n, d, e) ∧ Below w.heap.size w w' := by
  have t1 : (e == 0) = false := by simp [he]
  have hB := b3_start w (.cells #[.int .i64 n, .int .i64 d, .int .i64 e] 93) (.cells #[.int .i64 bn, .int .i64 bd] 29) (.cells #[.int .i64 0, .int .i64 0, .int .i64 0] 93)
  have hx0 := hB.b3
  go_enter Try.func54, Try.ntmps54
  have a0 : (((w.alloc (.cells #[.int .i64 n, .int .i64 d, .int .i64 e] 93)).alloc (.cells #[.int .i64 bn, .int .i64 bd] 29)).alloc (.cells #[.int .i64 0, .int .i64 0, .int .i64 0] 93)).cell? ⟨w.heap.size, 0, none⟩ = some (.int .i64 n) := blk_cell hB.b1 0
  have a1 : (((w.alloc (.cells #[.int .i64 n, .int .i64 d, .int .i64 e] 93)).alloc (.cells #[.int .i64 bn, .int .i64 bd] 29)).alloc (.cells #[.int .i64 0, .int .i64 0, .int .i64 0] 93)).cell? ⟨w.heap.size, 1, none⟩ = some (.int .i64 d) := blk_cell hB.b1 1
  have a2 : (((w.alloc (.cells #[.int .i64 n, .int .i64 d, .int .i64 e] 93)).alloc (.cells #[.int .i64 bn, .int .i64 bd] 29)).alloc (.cells #[.int .i64 0, .int .i64 0, .int .i64 0] 93)).cell? ⟨w.heap.size, 2, none⟩ = some (.int .i64 e) := blk_cell hB.b1 2
  have b0 : (((w.alloc (.cells #[.int .i64 n, .int .i64 d, .int .i64 e] 93)).alloc (.cells #[.int .i64 bn, .int .i64 bd] 29)).alloc (.cells #[.int .i64 0, .int .i64 0, .int .i64 0] 93)).cell? ⟨w.heap.size + 1, 0, none⟩ = some (.int .i64 bn) := blk_cell hB.b2 0
  have b1 : (((w.alloc (.cells #[.int .i64 n, .int .i64 d, .int .i64 e] 93)).alloc (.cells #[.int .i64 bn, .int .i64 bd] 29)).alloc (.cells #[.int .i64 0, .int .i64 0, .int .i64 0] 93)).cell? ⟨w.heap.size + 1, 1, none⟩ = some (.int .i64 bd) := blk_cell hB.b2 1
  go_wp2_with fail
  have hR := b3_start w (.cells #[.int .i64 n, .int .i64 d, .int .i64 e] 93) (.cells #[.int .i64 bn, .int .i64 bd] 29) (.cells #[.int .i64 n, .int .i64 d, .int .i64 e] 93)
  obtain ⟨w_, hw_⟩ : ∃ w_, w_ = (((w.alloc (.cells #[.int .i64 n, .int .i64 d, .int .i64 e] 93)).alloc (.cells #[.int .i64 bn, .int .i64 bd] 29)).alloc (.cells #[.int .i64 n, .int .i64 d, .int .i64 e] 93)) := ⟨_, rfl⟩
  rw [← hw_] at hR ⊢
  clear hw_
  have s0 : w_.cell? ⟨w.heap.size + 1 + 1, 0, none⟩ = some (.int .i64 n) := blk_cell hR.b3 0
  have s1 : w_.cell? ⟨w.heap.size + 1 + 1, 1, none⟩ = some (.int .i64 d) := blk_cell hR.b3 1
  have s2 : w_.cell? ⟨w.heap.size + 1 + 1, 2, none⟩ = some (.int .i64 e) := blk_cell hR.b3 2
  refine bodyPost_ret (by simp [results, Try.results54, go_sem, s0, s1, s2]; try rfl) rfl ?_
  exact ⟨rfl, hR.be⟩

set_option maxRecDepth 100000 in
set_option maxHeartbeats 2000000 in
theorem plus_on {n d bn bd : Int} (h1 : I64 n) (h2 : I64 d) (h3 : I64 bn) (h4 : I64 bd) (w : World) :
    Calls Try.prog 54 #[.agg #[.int .i64 n, .int .i64 d, .int .i64 0], .agg #[.int .i64 bn, .int .i64 bd]] w fun x w' => x = way (told (Rt n d ∧ Rt bn bd) (addR n d bn bd)) ∧ Below w.heap.size w w' := by
  obtain ⟨M, hMM⟩ : ∃ M, told (Rt n d ∧ Rt bn bd) (addR n d bn bd) = M := ⟨_, rfl⟩
  have hc := fun w => add_calls h1 h2 h3 h4 w
  rw [hMM]
  simp only [hMM] at hc
  clear hMM
  obtain ⟨r1, r2, r3⟩ := M
  simp only [ans] at hc
  have HC := Lib.hid hc
  clear hc
  go_enter Try.func54, Try.ntmps54
  go_wp2_with fail
  refine (HC.out _).mono ?_
  rintro e w1 ⟨rfl, hb1⟩
  have hB := (b3_start w (.cells #[.int .i64 n, .int .i64 d, .int .i64 0] 93) (.cells #[.int .i64 bn, .int .i64 bd] 29) (.cells #[.int .i64 0, .int .i64 0, .int .i64 0] 93)).step hb1
  clear hb1
  have hw1 := hB.size
  replace hB := hB.step (below_alloc (Below.refl _ _) (.cells #[.int .i64 r1, .int .i64 r2] 29))
  have kx := blk_new w1 (.cells #[.int .i64 r1, .int .i64 r2] 29)
  have c0 : (w1.alloc (.cells #[.int .i64 r1, .int .i64 r2] 29)).cell? ⟨w1.heap.size, 0, none⟩ = some (.int .i64 r1) := blk_cell kx 0
  have c1 : (w1.alloc (.cells #[.int .i64 r1, .int .i64 r2] 29)).cell? ⟨w1.heap.size, 1, none⟩ = some (.int .i64 r2) := blk_cell kx 1
  have hx_ := hB.b3
  have d_0 : (w1.alloc (.cells #[.int .i64 r1, .int .i64 r2] 29)).cell? ⟨w.heap.size + 1 + 1, 0, none⟩ = some (.int .i64 0) := blk_cell hx_ 0
  have df_0 : (w1.alloc (.cells #[.int .i64 r1, .int .i64 r2] 29)).frozen? ⟨w.heap.size + 1 + 1, 0, none⟩ = false := blk_frozen hx_ 0
  have d_1 : (w1.alloc (.cells #[.int .i64 r1, .int .i64 r2] 29)).cell? ⟨w.heap.size + 1 + 1, 1, none⟩ = some (.int .i64 0) := blk_cell hx_ 1
  have df_1 : (w1.alloc (.cells #[.int .i64 r1, .int .i64 r2] 29)).frozen? ⟨w.heap.size + 1 + 1, 1, none⟩ = false := blk_frozen hx_ 1
  have d_2 : (w1.alloc (.cells #[.int .i64 r1, .int .i64 r2] 29)).cell? ⟨w.heap.size + 1 + 1, 2, none⟩ = some (.int .i64 0) := blk_cell hx_ 2
  have df_2 : (w1.alloc (.cells #[.int .i64 r1, .int .i64 r2] 29)).frozen? ⟨w.heap.size + 1 + 1, 2, none⟩ = false := blk_frozen hx_ 2
  go_wp2_with fail
  have k_ := (blk_set (blk_set (blk_set hx_ 0 (.int .i64 r1)) 1 (.int .i64 r2)) 2 (.int .i64 r3))
  have hB_ := (Below.setCell (Below.setCell (Below.setCell hB.be (p := ⟨w.heap.size + 1 + 1, 0, none⟩) ((by show w.heap.size ≤ w.heap.size + 1 + 1; omega)) (.int .i64 r1)) (p := ⟨w.heap.size + 1 + 1, 1, none⟩) ((by show w.heap.size ≤ w.heap.size + 1 + 1; omega)) (.int .i64 r2)) (p := ⟨w.heap.size + 1 + 1, 2, none⟩) ((by show w.heap.size ≤ w.heap.size + 1 + 1; omega)) (.int .i64 r3))
  obtain ⟨w_, hw_⟩ : ∃ w_, w_ = (World.setCell (World.setCell (World.setCell (w1.alloc (.cells #[.int .i64 r1, .int .i64 r2] 29)) ⟨w.heap.size + 1 + 1, 0, none⟩ (.int .i64 r1)) ⟨w.heap.size + 1 + 1, 1, none⟩ (.int .i64 r2)) ⟨w.heap.size + 1 + 1, 2, none⟩ (.int .i64 r3)) := ⟨_, rfl⟩
  rw [← hw_] at k_ hB_
  try rw [← hw_]
  clear hw_
  have s_0 : w_.cell? ⟨w.heap.size + 1 + 1, 0, none⟩ = some (.int .i64 r1) := blk_cell k_ 0
  have s_1 : w_.cell? ⟨w.heap.size + 1 + 1, 1, none⟩ = some (.int .i64 r2) := blk_cell k_ 1
  have s_2 : w_.cell? ⟨w.heap.size + 1 + 1, 2, none⟩ = some (.int .i64 r3) := blk_cell k_ 2
  refine bodyPost_ret (by simp [results, Try.results54, go_sem, s_0, s_1, s_2]; try rfl) rfl ?_
  exact ⟨rfl, hB_⟩
end Go.Proofs.Ytcldlfhnmkogeaa.Scale

import Derived.Test.YtcldlfhnmkogeaaScaleIn
import Derived.Test.YtcldlfhnmkogeaaRefUnit
/- The value of a raw number, as the document has it (lancetref19.Value, In), walked. -/
set_option linter.unusedVariables false
set_option linter.unusedSimpArgs false
namespace Go.Proofs.Ytcldlfhnmkogeaa.Scale
open Go.RowKit Go.Proofs.YtcldlfhnmkogeaaW.PrintWords Go.Proofs.YtcldlfhnmkogeaaW.PrintLast Go.Proofs.Ytcldlfhnmkogeaa.Nats Go.Proofs.Ytcldlfhnmkogeaa.HeapKit Go.Proofs.Ytcldlfhnmkogeaa.RatPlain Go.Proofs.Ytcldlfhnmkogeaa.Unit Go.Proofs.Ytcldlfhnmkogeaa.RefWalk

theorem value_out {sn sd on od : Int} (hs : Rt sn sd) (ho : Rt on od) (raw : Int) : valueR sn sd on od raw = outO ((mulR raw 1 sn sd).bind fun p => addR p.1 p.2 on od) := by
  unfold valueR
  rw [if_pos ⟨hs, ho⟩, show ((raw, 1, 0) : Int × Int × Int) = outO (some (raw, 1)) from rfl, times_bind _ (by intro p hp; cases hp; exact Rt_one raw) hs]
  exact plus_bind _ (mul_Rt (Rt_one raw) hs) ho
set_option maxRecDepth 100000 in
set_option maxHeartbeats 4000000 in
theorem refvalue_wrong1 (f0 : ByteArray) (f1 : Int) (f2 : ByteArray) (f3 sn sd on od : Int) (f8 : ByteArray) (raw : Int) (hsn : I64 sn) (hsd : I64 sd) (hon : I64 on) (hod : I64 od) (hraw : I64 raw) (h : ¬ Rt sn sd) (w : World) :
    Calls Try.prog 42 #[.agg #[.string f0, .int .i64 f1, .string f2, .int .i64 f3, .int .i64 sn, .int .i64 sd, .int .i64 on, .int .i64 od, .string f8], .int .i64 raw] w fun e w' => e = ans (0, 0, 1) ∧ Below w.heap.size w w' := by
  have r1 := fun w => ref_right_calls hsn hsd w
  simp only [decide_eq_false h] at r1
  have R1 := Lib.hid r1
  clear r1
  have hB := b2_start w (.cells #[.string f0, .int .i64 f1, .string f2, .int .i64 f3, .int .i64 sn, .int .i64 sd, .int .i64 on, .int .i64 od, .string f8] 25) (.cells #[.int .i64 0, .int .i64 0] 23)
  have a0 : ((w.alloc (.cells #[.string f0, .int .i64 f1, .string f2, .int .i64 f3, .int .i64 sn, .int .i64 sd, .int .i64 on, .int .i64 od, .string f8] 25)).alloc (.cells #[.int .i64 0, .int .i64 0] 23)).cell? ⟨w.heap.size, 0, none⟩ = some (.string f0) := blk_cell hB.b1 0
  have a1 : ((w.alloc (.cells #[.string f0, .int .i64 f1, .string f2, .int .i64 f3, .int .i64 sn, .int .i64 sd, .int .i64 on, .int .i64 od, .string f8] 25)).alloc (.cells #[.int .i64 0, .int .i64 0] 23)).cell? ⟨w.heap.size, 1, none⟩ = some (.int .i64 f1) := blk_cell hB.b1 1
  have a2 : ((w.alloc (.cells #[.string f0, .int .i64 f1, .string f2, .int .i64 f3, .int .i64 sn, .int .i64 sd, .int .i64 on, .int .i64 od, .string f8] 25)).alloc (.cells #[.int .i64 0, .int .i64 0] 23)).cell? ⟨w.heap.size, 2, none⟩ = some (.string f2) := blk_cell hB.b1 2
  have a3 : ((w.alloc (.cells #[.string f0, .int .i64 f1, .string f2, .int .i64 f3, .int .i64 sn, .int .i64 sd, .int .i64 on, .int .i64 od, .string f8] 25)).alloc (.cells #[.int .i64 0, .int .i64 0] 23)).cell? ⟨w.heap.size, 3, none⟩ = some (.int .i64 f3) := blk_cell hB.b1 3
  have a4 : ((w.alloc (.cells #[.string f0, .int .i64 f1, .string f2, .int .i64 f3, .int .i64 sn, .int .i64 sd, .int .i64 on, .int .i64 od, .string f8] 25)).alloc (.cells #[.int .i64 0, .int .i64 0] 23)).cell? ⟨w.heap.size, 4, none⟩ = some (.int .i64 sn) := blk_cell hB.b1 4
  have a5 : ((w.alloc (.cells #[.string f0, .int .i64 f1, .string f2, .int .i64 f3, .int .i64 sn, .int .i64 sd, .int .i64 on, .int .i64 od, .string f8] 25)).alloc (.cells #[.int .i64 0, .int .i64 0] 23)).cell? ⟨w.heap.size, 5, none⟩ = some (.int .i64 sd) := blk_cell hB.b1 5
  have a6 : ((w.alloc (.cells #[.string f0, .int .i64 f1, .string f2, .int .i64 f3, .int .i64 sn, .int .i64 sd, .int .i64 on, .int .i64 od, .string f8] 25)).alloc (.cells #[.int .i64 0, .int .i64 0] 23)).cell? ⟨w.heap.size, 6, none⟩ = some (.int .i64 on) := blk_cell hB.b1 6
  have a7 : ((w.alloc (.cells #[.string f0, .int .i64 f1, .string f2, .int .i64 f3, .int .i64 sn, .int .i64 sd, .int .i64 on, .int .i64 od, .string f8] 25)).alloc (.cells #[.int .i64 0, .int .i64 0] 23)).cell? ⟨w.heap.size, 7, none⟩ = some (.int .i64 od) := blk_cell hB.b1 7
  have a8 : ((w.alloc (.cells #[.string f0, .int .i64 f1, .string f2, .int .i64 f3, .int .i64 sn, .int .i64 sd, .int .i64 on, .int .i64 od, .string f8] 25)).alloc (.cells #[.int .i64 0, .int .i64 0] 23)).cell? ⟨w.heap.size, 8, none⟩ = some (.string f8) := blk_cell hB.b1 8
  go_enter Try.func42, Try.ntmps42
  go_wp2_with fail
  refine (R1.out _).mono ?_
  rintro e w1 ⟨rfl, hb_⟩
  replace hB := hB.step hb_
  clear hb_ a0 a1 a2 a3 a4 a5 a6 a7 a8
  have hx_ := hB.b2
  have d_0 : w1.cell? ⟨w.heap.size + 1, 0, none⟩ = some (.int .i64 0) := blk_cell hx_ 0
  have df_0 : w1.frozen? ⟨w.heap.size + 1, 0, none⟩ = false := blk_frozen hx_ 0
  have d_1 : w1.cell? ⟨w.heap.size + 1, 1, none⟩ = some (.int .i64 0) := blk_cell hx_ 1
  have df_1 : w1.frozen? ⟨w.heap.size + 1, 1, none⟩ = false := blk_frozen hx_ 1
  go_wp2_with fail
  have k_ := (blk_set (blk_set hx_ 0 (.int .i64 0)) 1 (.int .i64 0))
  have hB_ := (Below.setCell (Below.setCell hB.be (p := ⟨w.heap.size + 1, 0, none⟩) ((by show w.heap.size ≤ w.heap.size + 1; omega)) (.int .i64 0)) (p := ⟨w.heap.size + 1, 1, none⟩) ((by show w.heap.size ≤ w.heap.size + 1; omega)) (.int .i64 0))
  obtain ⟨w_, hw_⟩ : ∃ w_, w_ = (World.setCell (World.setCell w1 ⟨w.heap.size + 1, 0, none⟩ (.int .i64 0)) ⟨w.heap.size + 1, 1, none⟩ (.int .i64 0)) := ⟨_, rfl⟩
  rw [← hw_] at k_ hB_
  try rw [← hw_]
  clear hw_
  have s_0 : w_.cell? ⟨w.heap.size + 1, 0, none⟩ = some (.int .i64 0) := blk_cell k_ 0
  have s_1 : w_.cell? ⟨w.heap.size + 1, 1, none⟩ = some (.int .i64 0) := blk_cell k_ 1
  refine bodyPost_ret (by simp [results, Try.results42, go_sem, s_0, s_1]; try rfl) rfl ?_
  exact ⟨rfl, hB_⟩
set_option maxRecDepth 100000 in
set_option maxHeartbeats 4000000 in
theorem refvalue_wrong2 (f0 : ByteArray) (f1 : Int) (f2 : ByteArray) (f3 sn sd on od : Int) (f8 : ByteArray) (raw : Int) (hsn : I64 sn) (hsd : I64 sd) (hon : I64 on) (hod : I64 od) (hraw : I64 raw) (h : Rt sn sd) (h2 : ¬ Rt on od) (w : World) :
    Calls Try.prog 42 #[.agg #[.string f0, .int .i64 f1, .string f2, .int .i64 f3, .int .i64 sn, .int .i64 sd, .int .i64 on, .int .i64 od, .string f8], .int .i64 raw] w fun e w' => e = ans (0, 0, 1) ∧ Below w.heap.size w w' := by
  have r1 := fun w => ref_right_calls hsn hsd w
  simp only [decide_eq_true h] at r1
  have R1 := Lib.hid r1
  clear r1
  have r2 := fun w => ref_right_calls hon hod w
  simp only [decide_eq_false h2] at r2
  have R2 := Lib.hid r2
  clear r2
  have hB := b2_start w (.cells #[.string f0, .int .i64 f1, .string f2, .int .i64 f3, .int .i64 sn, .int .i64 sd, .int .i64 on, .int .i64 od, .string f8] 25) (.cells #[.int .i64 0, .int .i64 0] 23)
  have a0 : ((w.alloc (.cells #[.string f0, .int .i64 f1, .string f2, .int .i64 f3, .int .i64 sn, .int .i64 sd, .int .i64 on, .int .i64 od, .string f8] 25)).alloc (.cells #[.int .i64 0, .int .i64 0] 23)).cell? ⟨w.heap.size, 0, none⟩ = some (.string f0) := blk_cell hB.b1 0
  have a1 : ((w.alloc (.cells #[.string f0, .int .i64 f1, .string f2, .int .i64 f3, .int .i64 sn, .int .i64 sd, .int .i64 on, .int .i64 od, .string f8] 25)).alloc (.cells #[.int .i64 0, .int .i64 0] 23)).cell? ⟨w.heap.size, 1, none⟩ = some (.int .i64 f1) := blk_cell hB.b1 1
  have a2 : ((w.alloc (.cells #[.string f0, .int .i64 f1, .string f2, .int .i64 f3, .int .i64 sn, .int .i64 sd, .int .i64 on, .int .i64 od, .string f8] 25)).alloc (.cells #[.int .i64 0, .int .i64 0] 23)).cell? ⟨w.heap.size, 2, none⟩ = some (.string f2) := blk_cell hB.b1 2
  have a3 : ((w.alloc (.cells #[.string f0, .int .i64 f1, .string f2, .int .i64 f3, .int .i64 sn, .int .i64 sd, .int .i64 on, .int .i64 od, .string f8] 25)).alloc (.cells #[.int .i64 0, .int .i64 0] 23)).cell? ⟨w.heap.size, 3, none⟩ = some (.int .i64 f3) := blk_cell hB.b1 3
  have a4 : ((w.alloc (.cells #[.string f0, .int .i64 f1, .string f2, .int .i64 f3, .int .i64 sn, .int .i64 sd, .int .i64 on, .int .i64 od, .string f8] 25)).alloc (.cells #[.int .i64 0, .int .i64 0] 23)).cell? ⟨w.heap.size, 4, none⟩ = some (.int .i64 sn) := blk_cell hB.b1 4
  have a5 : ((w.alloc (.cells #[.string f0, .int .i64 f1, .string f2, .int .i64 f3, .int .i64 sn, .int .i64 sd, .int .i64 on, .int .i64 od, .string f8] 25)).alloc (.cells #[.int .i64 0, .int .i64 0] 23)).cell? ⟨w.heap.size, 5, none⟩ = some (.int .i64 sd) := blk_cell hB.b1 5
  have a6 : ((w.alloc (.cells #[.string f0, .int .i64 f1, .string f2, .int .i64 f3, .int .i64 sn, .int .i64 sd, .int .i64 on, .int .i64 od, .string f8] 25)).alloc (.cells #[.int .i64 0, .int .i64 0] 23)).cell? ⟨w.heap.size, 6, none⟩ = some (.int .i64 on) := blk_cell hB.b1 6
  have a7 : ((w.alloc (.cells #[.string f0, .int .i64 f1, .string f2, .int .i64 f3, .int .i64 sn, .int .i64 sd, .int .i64 on, .int .i64 od, .string f8] 25)).alloc (.cells #[.int .i64 0, .int .i64 0] 23)).cell? ⟨w.heap.size, 7, none⟩ = some (.int .i64 od) := blk_cell hB.b1 7
  have a8 : ((w.alloc (.cells #[.string f0, .int .i64 f1, .string f2, .int .i64 f3, .int .i64 sn, .int .i64 sd, .int .i64 on, .int .i64 od, .string f8] 25)).alloc (.cells #[.int .i64 0, .int .i64 0] 23)).cell? ⟨w.heap.size, 8, none⟩ = some (.string f8) := blk_cell hB.b1 8
  go_enter Try.func42, Try.ntmps42
  go_wp2_with fail
  refine (R1.out _).mono ?_
  rintro e w1 ⟨rfl, hb_⟩
  replace hB := hB.step hb_
  clear hb_ a0 a1 a2 a3 a4 a5 a6 a7 a8
  have a0 : w1.cell? ⟨w.heap.size, 0, none⟩ = some (.string f0) := blk_cell hB.b1 0
  have a1 : w1.cell? ⟨w.heap.size, 1, none⟩ = some (.int .i64 f1) := blk_cell hB.b1 1
  have a2 : w1.cell? ⟨w.heap.size, 2, none⟩ = some (.string f2) := blk_cell hB.b1 2
  have a3 : w1.cell? ⟨w.heap.size, 3, none⟩ = some (.int .i64 f3) := blk_cell hB.b1 3
  have a4 : w1.cell? ⟨w.heap.size, 4, none⟩ = some (.int .i64 sn) := blk_cell hB.b1 4
  have a5 : w1.cell? ⟨w.heap.size, 5, none⟩ = some (.int .i64 sd) := blk_cell hB.b1 5
  have a6 : w1.cell? ⟨w.heap.size, 6, none⟩ = some (.int .i64 on) := blk_cell hB.b1 6
  have a7 : w1.cell? ⟨w.heap.size, 7, none⟩ = some (.int .i64 od) := blk_cell hB.b1 7
  have a8 : w1.cell? ⟨w.heap.size, 8, none⟩ = some (.string f8) := blk_cell hB.b1 8
  go_wp2_with fail
  refine (R2.out _).mono ?_
  rintro e w2 ⟨rfl, hb_⟩
  replace hB := hB.step hb_
  clear hb_ a0 a1 a2 a3 a4 a5 a6 a7 a8
  have hx_ := hB.b2
  have d_0 : w2.cell? ⟨w.heap.size + 1, 0, none⟩ = some (.int .i64 0) := blk_cell hx_ 0
  have df_0 : w2.frozen? ⟨w.heap.size + 1, 0, none⟩ = false := blk_frozen hx_ 0
  have d_1 : w2.cell? ⟨w.heap.size + 1, 1, none⟩ = some (.int .i64 0) := blk_cell hx_ 1
  have df_1 : w2.frozen? ⟨w.heap.size + 1, 1, none⟩ = false := blk_frozen hx_ 1
  go_wp2_with fail
  have k_ := (blk_set (blk_set hx_ 0 (.int .i64 0)) 1 (.int .i64 0))
  have hB_ := (Below.setCell (Below.setCell hB.be (p := ⟨w.heap.size + 1, 0, none⟩) ((by show w.heap.size ≤ w.heap.size + 1; omega)) (.int .i64 0)) (p := ⟨w.heap.size + 1, 1, none⟩) ((by show w.heap.size ≤ w.heap.size + 1; omega)) (.int .i64 0))
  obtain ⟨w_, hw_⟩ : ∃ w_, w_ = (World.setCell (World.setCell w2 ⟨w.heap.size + 1, 0, none⟩ (.int .i64 0)) ⟨w.heap.size + 1, 1, none⟩ (.int .i64 0)) := ⟨_, rfl⟩
  rw [← hw_] at k_ hB_
  try rw [← hw_]
  clear hw_
  have s_0 : w_.cell? ⟨w.heap.size + 1, 0, none⟩ = some (.int .i64 0) := blk_cell k_ 0
  have s_1 : w_.cell? ⟨w.heap.size + 1, 1, none⟩ = some (.int .i64 0) := blk_cell k_ 1
  refine bodyPost_ret (by simp [results, Try.results42, go_sem, s_0, s_1]; try rfl) rfl ?_
  exact ⟨rfl, hB_⟩
set_option maxRecDepth 100000 in
set_option maxHeartbeats 4000000 in
theorem refvalue_right (f0 : ByteArray) (f1 : Int) (f2 : ByteArray) (f3 sn sd on od : Int) (f8 : ByteArray) (raw : Int) (hsn : I64 sn) (hsd : I64 sd) (hon : I64 on) (hod : I64 od) (hraw : I64 raw) (h : Rt sn sd) (h2 : Rt on od) (w : World) :
    Calls Try.prog 42 #[.agg #[.string f0, .int .i64 f1, .string f2, .int .i64 f3, .int .i64 sn, .int .i64 sd, .int .i64 on, .int .i64 od, .string f8], .int .i64 raw] w fun e w' => e = ans (outO ((mulR raw 1 sn sd).bind fun p => addR p.1 p.2 on od)) ∧ Below w.heap.size w w' := by
  have r1 := fun w => ref_right_calls hsn hsd w
  simp only [decide_eq_true h] at r1
  have R1 := Lib.hid r1
  clear r1
  have r2 := fun w => ref_right_calls hon hod w
  simp only [decide_eq_true h2] at r2
  have R2 := Lib.hid r2
  clear r2
  obtain ⟨M, hm⟩ : ∃ M, mulR raw 1 sn sd = M := ⟨_, rfl⟩
  have cm := fun w => refmul_calls hraw (by decide : I64 1) hsn hsd (Rt_one raw) h w
  have im := mul_In (Rt_one raw) h
  have rm := mul_Rt (Rt_one raw) h
  simp only [hm, ansB] at cm im rm
  rw [hm]
  have CM := Lib.hid cm
  have IM := Lib.hid im
  have RM := Lib.hid rm
  have H2 := Lib.hid h2
  clear cm im rm hm h h2
  have hB := b2_start w (.cells #[.string f0, .int .i64 f1, .string f2, .int .i64 f3, .int .i64 sn, .int .i64 sd, .int .i64 on, .int .i64 od, .string f8] 25) (.cells #[.int .i64 0, .int .i64 0] 23)
  have a0 : ((w.alloc (.cells #[.string f0, .int .i64 f1, .string f2, .int .i64 f3, .int .i64 sn, .int .i64 sd, .int .i64 on, .int .i64 od, .string f8] 25)).alloc (.cells #[.int .i64 0, .int .i64 0] 23)).cell? ⟨w.heap.size, 0, none⟩ = some (.string f0) := blk_cell hB.b1 0
  have a1 : ((w.alloc (.cells #[.string f0, .int .i64 f1, .string f2, .int .i64 f3, .int .i64 sn, .int .i64 sd, .int .i64 on, .int .i64 od, .string f8] 25)).alloc (.cells #[.int .i64 0, .int .i64 0] 23)).cell? ⟨w.heap.size, 1, none⟩ = some (.int .i64 f1) := blk_cell hB.b1 1
  have a2 : ((w.alloc (.cells #[.string f0, .int .i64 f1, .string f2, .int .i64 f3, .int .i64 sn, .int .i64 sd, .int .i64 on, .int .i64 od, .string f8] 25)).alloc (.cells #[.int .i64 0, .int .i64 0] 23)).cell? ⟨w.heap.size, 2, none⟩ = some (.string f2) := blk_cell hB.b1 2
  have a3 : ((w.alloc (.cells #[.string f0, .int .i64 f1, .string f2, .int .i64 f3, .int .i64 sn, .int .i64 sd, .int .i64 on, .int .i64 od, .string f8] 25)).alloc (.cells #[.int .i64 0, .int .i64 0] 23)).cell? ⟨w.heap.size, 3, none⟩ = some (.int .i64 f3) := blk_cell hB.b1 3
  have a4 : ((w.alloc (.cells #[.string f0, .int .i64 f1, .string f2, .int .i64 f3, .int .i64 sn, .int .i64 sd, .int .i64 on, .int .i64 od, .string f8] 25)).alloc (.cells #[.int .i64 0, .int .i64 0] 23)).cell? ⟨w.heap.size, 4, none⟩ = some (.int .i64 sn) := blk_cell hB.b1 4
  have a5 : ((w.alloc (.cells #[.string f0, .int .i64 f1, .string f2, .int .i64 f3, .int .i64 sn, .int .i64 sd, .int .i64 on, .int .i64 od, .string f8] 25)).alloc (.cells #[.int .i64 0, .int .i64 0] 23)).cell? ⟨w.heap.size, 5, none⟩ = some (.int .i64 sd) := blk_cell hB.b1 5
  have a6 : ((w.alloc (.cells #[.string f0, .int .i64 f1, .string f2, .int .i64 f3, .int .i64 sn, .int .i64 sd, .int .i64 on, .int .i64 od, .string f8] 25)).alloc (.cells #[.int .i64 0, .int .i64 0] 23)).cell? ⟨w.heap.size, 6, none⟩ = some (.int .i64 on) := blk_cell hB.b1 6
  have a7 : ((w.alloc (.cells #[.string f0, .int .i64 f1, .string f2, .int .i64 f3, .int .i64 sn, .int .i64 sd, .int .i64 on, .int .i64 od, .string f8] 25)).alloc (.cells #[.int .i64 0, .int .i64 0] 23)).cell? ⟨w.heap.size, 7, none⟩ = some (.int .i64 od) := blk_cell hB.b1 7
  have a8 : ((w.alloc (.cells #[.string f0, .int .i64 f1, .string f2, .int .i64 f3, .int .i64 sn, .int .i64 sd, .int .i64 on, .int .i64 od, .string f8] 25)).alloc (.cells #[.int .i64 0, .int .i64 0] 23)).cell? ⟨w.heap.size, 8, none⟩ = some (.string f8) := blk_cell hB.b1 8
  go_enter Try.func42, Try.ntmps42
  go_wp2_with fail
  refine (R1.out _).mono ?_
  rintro e w1 ⟨rfl, hb_⟩
  replace hB := hB.step hb_
  clear hb_ a0 a1 a2 a3 a4 a5 a6 a7 a8
  have a0 : w1.cell? ⟨w.heap.size, 0, none⟩ = some (.string f0) := blk_cell hB.b1 0
  have a1 : w1.cell? ⟨w.heap.size, 1, none⟩ = some (.int .i64 f1) := blk_cell hB.b1 1
  have a2 : w1.cell? ⟨w.heap.size, 2, none⟩ = some (.string f2) := blk_cell hB.b1 2
  have a3 : w1.cell? ⟨w.heap.size, 3, none⟩ = some (.int .i64 f3) := blk_cell hB.b1 3
  have a4 : w1.cell? ⟨w.heap.size, 4, none⟩ = some (.int .i64 sn) := blk_cell hB.b1 4
  have a5 : w1.cell? ⟨w.heap.size, 5, none⟩ = some (.int .i64 sd) := blk_cell hB.b1 5
  have a6 : w1.cell? ⟨w.heap.size, 6, none⟩ = some (.int .i64 on) := blk_cell hB.b1 6
  have a7 : w1.cell? ⟨w.heap.size, 7, none⟩ = some (.int .i64 od) := blk_cell hB.b1 7
  have a8 : w1.cell? ⟨w.heap.size, 8, none⟩ = some (.string f8) := blk_cell hB.b1 8
  go_wp2_with fail
  refine (R2.out _).mono ?_
  rintro e w2 ⟨rfl, hb_⟩
  replace hB := hB.step hb_
  clear hb_ a0 a1 a2 a3 a4 a5 a6 a7 a8
  have a0 : w2.cell? ⟨w.heap.size, 0, none⟩ = some (.string f0) := blk_cell hB.b1 0
  have a1 : w2.cell? ⟨w.heap.size, 1, none⟩ = some (.int .i64 f1) := blk_cell hB.b1 1
  have a2 : w2.cell? ⟨w.heap.size, 2, none⟩ = some (.string f2) := blk_cell hB.b1 2
  have a3 : w2.cell? ⟨w.heap.size, 3, none⟩ = some (.int .i64 f3) := blk_cell hB.b1 3
  have a4 : w2.cell? ⟨w.heap.size, 4, none⟩ = some (.int .i64 sn) := blk_cell hB.b1 4
  have a5 : w2.cell? ⟨w.heap.size, 5, none⟩ = some (.int .i64 sd) := blk_cell hB.b1 5
  have a6 : w2.cell? ⟨w.heap.size, 6, none⟩ = some (.int .i64 on) := blk_cell hB.b1 6
  have a7 : w2.cell? ⟨w.heap.size, 7, none⟩ = some (.int .i64 od) := blk_cell hB.b1 7
  have a8 : w2.cell? ⟨w.heap.size, 8, none⟩ = some (.string f8) := blk_cell hB.b1 8
  go_wp2_with fail
  clear a0 a1 a2 a3 a4 a5 a6 a7 a8
  cases M with
  | none =>
    have cc := CM.out
    simp only [toldB] at cc
    refine (cc _).mono ?_
    rintro e w3 ⟨rfl, hb_⟩
    clear cc
    replace hB := (hB.step hb_).step (below_alloc (Below.refl _ _) (.cells #[.int .i64 0, .int .i64 0] 23))
    clear hb_
    have hx_ := hB.b2
    have d_0 : (w3.alloc (.cells #[.int .i64 0, .int .i64 0] 23)).cell? ⟨w.heap.size + 1, 0, none⟩ = some (.int .i64 0) := blk_cell hx_ 0
    have df_0 : (w3.alloc (.cells #[.int .i64 0, .int .i64 0] 23)).frozen? ⟨w.heap.size + 1, 0, none⟩ = false := blk_frozen hx_ 0
    have d_1 : (w3.alloc (.cells #[.int .i64 0, .int .i64 0] 23)).cell? ⟨w.heap.size + 1, 1, none⟩ = some (.int .i64 0) := blk_cell hx_ 1
    have df_1 : (w3.alloc (.cells #[.int .i64 0, .int .i64 0] 23)).frozen? ⟨w.heap.size + 1, 1, none⟩ = false := blk_frozen hx_ 1
    go_wp2_with fail
    have k_ := (blk_set (blk_set hx_ 0 (.int .i64 0)) 1 (.int .i64 0))
    have hB_ := (Below.setCell (Below.setCell hB.be (p := ⟨w.heap.size + 1, 0, none⟩) ((by show w.heap.size ≤ w.heap.size + 1; omega)) (.int .i64 0)) (p := ⟨w.heap.size + 1, 1, none⟩) ((by show w.heap.size ≤ w.heap.size + 1; omega)) (.int .i64 0))
    obtain ⟨w_, hw_⟩ : ∃ w_, w_ = (World.setCell (World.setCell (w3.alloc (.cells #[.int .i64 0, .int .i64 0] 23)) ⟨w.heap.size + 1, 0, none⟩ (.int .i64 0)) ⟨w.heap.size + 1, 1, none⟩ (.int .i64 0)) := ⟨_, rfl⟩
    rw [← hw_] at k_ hB_
    try rw [← hw_]
    clear hw_
    have s_0 : w_.cell? ⟨w.heap.size + 1, 0, none⟩ = some (.int .i64 0) := blk_cell k_ 0
    have s_1 : w_.cell? ⟨w.heap.size + 1, 1, none⟩ = some (.int .i64 0) := blk_cell k_ 1
    refine bodyPost_ret (by simp [results, Try.results42, go_sem, s_0, s_1]; try rfl) rfl ?_
    exact ⟨rfl, hB_⟩
  | some p =>
    obtain ⟨p1, p2⟩ := p
    have cc := CM.out
    have ii := IM.out _ rfl
    have rr := RM.out _ rfl
    simp only [toldB] at cc
    dsimp only at ii rr
    refine (cc _).mono ?_
    rintro e w3 ⟨rfl, hb_⟩
    clear cc
    have kx := blk_new w3 (.cells #[.int .i64 p1, .int .i64 p2] 23)
    replace hB := hB.step hb_
    have hz3 := hB.size
    replace hB := hB.step (below_alloc (Below.refl _ _) (.cells #[.int .i64 p1, .int .i64 p2] 23))
    clear hb_
    obtain ⟨M2, hm⟩ : ∃ M, addR p1 p2 on od = M := ⟨_, rfl⟩
    have cm := fun w => refadd_calls ii.1 ii.2 hon hod rr H2.out w
    simp only [hm, ansB] at cm
    have HM := Lib.hid hm
    have CM2 := Lib.hid cm
    clear cm hm ii rr
    have a0 : (w3.alloc (.cells #[.int .i64 p1, .int .i64 p2] 23)).cell? ⟨w.heap.size, 0, none⟩ = some (.string f0) := blk_cell hB.b1 0
    have a1 : (w3.alloc (.cells #[.int .i64 p1, .int .i64 p2] 23)).cell? ⟨w.heap.size, 1, none⟩ = some (.int .i64 f1) := blk_cell hB.b1 1
    have a2 : (w3.alloc (.cells #[.int .i64 p1, .int .i64 p2] 23)).cell? ⟨w.heap.size, 2, none⟩ = some (.string f2) := blk_cell hB.b1 2
    have a3 : (w3.alloc (.cells #[.int .i64 p1, .int .i64 p2] 23)).cell? ⟨w.heap.size, 3, none⟩ = some (.int .i64 f3) := blk_cell hB.b1 3
    have a4 : (w3.alloc (.cells #[.int .i64 p1, .int .i64 p2] 23)).cell? ⟨w.heap.size, 4, none⟩ = some (.int .i64 sn) := blk_cell hB.b1 4
    have a5 : (w3.alloc (.cells #[.int .i64 p1, .int .i64 p2] 23)).cell? ⟨w.heap.size, 5, none⟩ = some (.int .i64 sd) := blk_cell hB.b1 5
    have a6 : (w3.alloc (.cells #[.int .i64 p1, .int .i64 p2] 23)).cell? ⟨w.heap.size, 6, none⟩ = some (.int .i64 on) := blk_cell hB.b1 6
    have a7 : (w3.alloc (.cells #[.int .i64 p1, .int .i64 p2] 23)).cell? ⟨w.heap.size, 7, none⟩ = some (.int .i64 od) := blk_cell hB.b1 7
    have a8 : (w3.alloc (.cells #[.int .i64 p1, .int .i64 p2] 23)).cell? ⟨w.heap.size, 8, none⟩ = some (.string f8) := blk_cell hB.b1 8
    have b0 : (w3.alloc (.cells #[.int .i64 p1, .int .i64 p2] 23)).cell? ⟨w3.heap.size, 0, none⟩ = some (.int .i64 p1) := blk_cell kx 0
    have b1 : (w3.alloc (.cells #[.int .i64 p1, .int .i64 p2] 23)).cell? ⟨w3.heap.size, 1, none⟩ = some (.int .i64 p2) := blk_cell kx 1
    go_wp2_with fail
    clear a0 a1 a2 a3 a4 a5 a6 a7 a8 b0 b1
    obtain ⟨p6, hp6⟩ : ∃ p, p = w3.heap.size := ⟨_, rfl⟩
    rw [← hp6] at kx hz3
    rw [← hp6]
    obtain ⟨w4, hw4⟩ : ∃ w4, w4 = w3.alloc (.cells #[.int .i64 p1, .int .i64 p2] 23) := ⟨_, rfl⟩
    rw [← hw4] at hB kx
    rw [← hw4]
    clear hw4 hp6
    have n1 : ¬ p6 = w.heap.size + 1 := by omega
    cases M2 with
    | none =>
      have cc := CM2.out
      simp only [toldB] at cc
      refine (cc _).mono ?_
      rintro e w5 ⟨rfl, hb_⟩
      clear cc
      replace hB := hB.step hb_
      replace kx := blk_below kx hb_
      clear hb_
      have b0 : w5.cell? ⟨p6, 0, none⟩ = some (.int .i64 p1) := blk_cell kx 0
      have bf0 : w5.frozen? ⟨p6, 0, none⟩ = false := blk_frozen kx 0
      have b1 : w5.cell? ⟨p6, 1, none⟩ = some (.int .i64 p2) := blk_cell kx 1
      have bf1 : w5.frozen? ⟨p6, 1, none⟩ = false := blk_frozen kx 1
      have e0 : w5.cell? ⟨w.heap.size + 1, 0, none⟩ = some (.int .i64 0) := blk_cell hB.b2 0
      have ef0 : w5.frozen? ⟨w.heap.size + 1, 0, none⟩ = false := blk_frozen hB.b2 0
      have e1 : w5.cell? ⟨w.heap.size + 1, 1, none⟩ = some (.int .i64 0) := blk_cell hB.b2 1
      have ef1 : w5.frozen? ⟨w.heap.size + 1, 1, none⟩ = false := blk_frozen hB.b2 1
      replace hB := (hB.far (p := ⟨p6, 0, none⟩) hz3 (.int .i64 0)).far (p := ⟨p6, 1, none⟩) hz3 (.int .i64 0)
      have hx_ := hB.b2
      have d_0 : ((w5.setCell ⟨p6, 0, none⟩ (.int .i64 0)).setCell ⟨p6, 1, none⟩ (.int .i64 0)).cell? ⟨w.heap.size + 1, 0, none⟩ = some (.int .i64 0) := blk_cell hx_ 0
      have df_0 : ((w5.setCell ⟨p6, 0, none⟩ (.int .i64 0)).setCell ⟨p6, 1, none⟩ (.int .i64 0)).frozen? ⟨w.heap.size + 1, 0, none⟩ = false := blk_frozen hx_ 0
      have d_1 : ((w5.setCell ⟨p6, 0, none⟩ (.int .i64 0)).setCell ⟨p6, 1, none⟩ (.int .i64 0)).cell? ⟨w.heap.size + 1, 1, none⟩ = some (.int .i64 0) := blk_cell hx_ 1
      have df_1 : ((w5.setCell ⟨p6, 0, none⟩ (.int .i64 0)).setCell ⟨p6, 1, none⟩ (.int .i64 0)).frozen? ⟨w.heap.size + 1, 1, none⟩ = false := blk_frozen hx_ 1
      go_wp2_with fail
      have k_ := (blk_set (blk_set hx_ 0 (.int .i64 0)) 1 (.int .i64 0))
      have hB_ := (Below.setCell (Below.setCell hB.be (p := ⟨w.heap.size + 1, 0, none⟩) ((by show w.heap.size ≤ w.heap.size + 1; omega)) (.int .i64 0)) (p := ⟨w.heap.size + 1, 1, none⟩) ((by show w.heap.size ≤ w.heap.size + 1; omega)) (.int .i64 0))
      obtain ⟨w_, hw_⟩ : ∃ w_, w_ = (World.setCell (World.setCell ((w5.setCell ⟨p6, 0, none⟩ (.int .i64 0)).setCell ⟨p6, 1, none⟩ (.int .i64 0)) ⟨w.heap.size + 1, 0, none⟩ (.int .i64 0)) ⟨w.heap.size + 1, 1, none⟩ (.int .i64 0)) := ⟨_, rfl⟩
      rw [← hw_] at k_ hB_
      try rw [← hw_]
      clear hw_
      have s_0 : w_.cell? ⟨w.heap.size + 1, 0, none⟩ = some (.int .i64 0) := blk_cell k_ 0
      have s_1 : w_.cell? ⟨w.heap.size + 1, 1, none⟩ = some (.int .i64 0) := blk_cell k_ 1
      refine bodyPost_ret (by simp [results, Try.results42, go_sem, s_0, s_1]; try rfl) rfl ?_
      rw [show (some (p1, p2)).bind (fun p => addR p.1 p.2 on od) = none from HM.out]
      exact ⟨rfl, hB_⟩
    | some q =>
      obtain ⟨q1, q2⟩ := q
      have cc := CM2.out
      simp only [toldB] at cc
      refine (cc _).mono ?_
      rintro e w5 ⟨rfl, hb_⟩
      clear cc
      replace hB := hB.step hb_
      replace kx := blk_below kx hb_
      clear hb_
      have b0 : w5.cell? ⟨p6, 0, none⟩ = some (.int .i64 p1) := blk_cell kx 0
      have bf0 : w5.frozen? ⟨p6, 0, none⟩ = false := blk_frozen kx 0
      have b1 : w5.cell? ⟨p6, 1, none⟩ = some (.int .i64 p2) := blk_cell kx 1
      have bf1 : w5.frozen? ⟨p6, 1, none⟩ = false := blk_frozen kx 1
      have e0 : w5.cell? ⟨w.heap.size + 1, 0, none⟩ = some (.int .i64 0) := blk_cell hB.b2 0
      have ef0 : w5.frozen? ⟨w.heap.size + 1, 0, none⟩ = false := blk_frozen hB.b2 0
      have e1 : w5.cell? ⟨w.heap.size + 1, 1, none⟩ = some (.int .i64 0) := blk_cell hB.b2 1
      have ef1 : w5.frozen? ⟨w.heap.size + 1, 1, none⟩ = false := blk_frozen hB.b2 1
      replace hB := (hB.far (p := ⟨p6, 0, none⟩) hz3 (.int .i64 q1)).far (p := ⟨p6, 1, none⟩) hz3 (.int .i64 q2)
      have hx_ := hB.b2
      have d_0 : ((w5.setCell ⟨p6, 0, none⟩ (.int .i64 q1)).setCell ⟨p6, 1, none⟩ (.int .i64 q2)).cell? ⟨w.heap.size + 1, 0, none⟩ = some (.int .i64 0) := blk_cell hx_ 0
      have df_0 : ((w5.setCell ⟨p6, 0, none⟩ (.int .i64 q1)).setCell ⟨p6, 1, none⟩ (.int .i64 q2)).frozen? ⟨w.heap.size + 1, 0, none⟩ = false := blk_frozen hx_ 0
      have d_1 : ((w5.setCell ⟨p6, 0, none⟩ (.int .i64 q1)).setCell ⟨p6, 1, none⟩ (.int .i64 q2)).cell? ⟨w.heap.size + 1, 1, none⟩ = some (.int .i64 0) := blk_cell hx_ 1
      have df_1 : ((w5.setCell ⟨p6, 0, none⟩ (.int .i64 q1)).setCell ⟨p6, 1, none⟩ (.int .i64 q2)).frozen? ⟨w.heap.size + 1, 1, none⟩ = false := blk_frozen hx_ 1
      go_wp2_with fail
      have k_ := (blk_set (blk_set hx_ 0 (.int .i64 q1)) 1 (.int .i64 q2))
      have hB_ := (Below.setCell (Below.setCell hB.be (p := ⟨w.heap.size + 1, 0, none⟩) ((by show w.heap.size ≤ w.heap.size + 1; omega)) (.int .i64 q1)) (p := ⟨w.heap.size + 1, 1, none⟩) ((by show w.heap.size ≤ w.heap.size + 1; omega)) (.int .i64 q2))
      obtain ⟨w_, hw_⟩ : ∃ w_, w_ = (World.setCell (World.setCell ((w5.setCell ⟨p6, 0, none⟩ (.int .i64 q1)).setCell ⟨p6, 1, none⟩ (.int .i64 q2)) ⟨w.heap.size + 1, 0, none⟩ (.int .i64 q1)) ⟨w.heap.size + 1, 1, none⟩ (.int .i64 q2)) := ⟨_, rfl⟩
      rw [← hw_] at k_ hB_
      try rw [← hw_]
      clear hw_
      have s_0 : w_.cell? ⟨w.heap.size + 1, 0, none⟩ = some (.int .i64 q1) := blk_cell k_ 0
      have s_1 : w_.cell? ⟨w.heap.size + 1, 1, none⟩ = some (.int .i64 q2) := blk_cell k_ 1
      refine bodyPost_ret (by simp [results, Try.results42, go_sem, s_0, s_1]; try rfl) rfl ?_
      rw [show (some (p1, p2)).bind (fun p => addR p.1 p.2 on od) = some (q1, q2) from HM.out]
      exact ⟨rfl, hB_⟩
theorem refvalue_calls (f0 : ByteArray) (f1 : Int) (f2 : ByteArray) (f3 sn sd on od : Int) (f8 : ByteArray) (raw : Int) (hsn : I64 sn) (hsd : I64 sd) (hon : I64 on) (hod : I64 od) (hraw : I64 raw) (w : World) :
    Calls Try.prog 42 #[.agg #[.string f0, .int .i64 f1, .string f2, .int .i64 f3, .int .i64 sn, .int .i64 sd, .int .i64 on, .int .i64 od, .string f8], .int .i64 raw] w fun e w' => e = ans (valueR sn sd on od raw) ∧ Below w.heap.size w w' := by
  by_cases h : Rt sn sd
  · by_cases h2 : Rt on od
    · rw [value_out h h2]
      exact refvalue_right f0 f1 f2 f3 sn sd on od f8 raw hsn hsd hon hod hraw h h2 w
    · have e : valueR sn sd on od raw = (0, 0, 1) := if_neg (fun k => h2 k.2)
      rw [e]
      exact refvalue_wrong2 f0 f1 f2 f3 sn sd on od f8 raw hsn hsd hon hod hraw h h2 w
  · have e : valueR sn sd on od raw = (0, 0, 1) := if_neg (fun k => h k.1)
    rw [e]
    exact refvalue_wrong1 f0 f1 f2 f3 sn sd on od f8 raw hsn hsd hon hod hraw h w
end Go.Proofs.Ytcldlfhnmkogeaa.Scale

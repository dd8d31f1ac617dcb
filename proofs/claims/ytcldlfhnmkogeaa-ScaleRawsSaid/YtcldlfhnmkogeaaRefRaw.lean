import Derived.Test.YtcldlfhnmkogeaaRefOps
import Derived.Test.YtcldlfhnmkogeaaScaleFacts
/- The document's Raw (lancetref19), walked. -/
set_option linter.unusedVariables false
set_option linter.unusedSimpArgs false
namespace Go.Proofs.Ytcldlfhnmkogeaa.RefRaw
open Go.RowKit Go.Proofs.YtcldlfhnmkogeaaW.PrintWords Go.Proofs.YtcldlfhnmkogeaaW.PrintLast Go.Proofs.Ytcldlfhnmkogeaa.Nats Go.Proofs.Ytcldlfhnmkogeaa.HeapKit Go.Proofs.Ytcldlfhnmkogeaa.RatPlain Go.Proofs.Ytcldlfhnmkogeaa.Scale Go.Proofs.Ytcldlfhnmkogeaa.RefWalk

theorem raw_facts {sn sd on od vn vd : Int} (hr : (Rt sn sd ∧ Rt on od) ∧ Rt vn vd) (hz : sn ≠ 0) (ho : on ≠ -9223372036854775808) (hs : sn ≠ -9223372036854775808) :
    (addR vn vd (-on) od = none → rawR sn sd on od vn vd = (0, 2)) ∧ (∀ p, addR vn vd (-on) od = some p → Rt p.1 p.2 ∧ I64 p.1 ∧ I64 p.2 ∧
      (mulR p.1 p.2 (over sn sd).1 (over sn sd).2 = none → rawR sn sd on od vn vd = (0, 2)) ∧
      (∀ q, mulR p.1 p.2 (over sn sd).1 (over sn sd).2 = some q → rawR sn sd on od vn vd = if q.2 = 1 then (q.1, 0) else (0, 6))) := by
  have hb := (over_Rt hr.1.1 hz).1
  have hno := Rt_neg hr.1.2
  have e : rawR sn sd on od vn vd = fin (timesW (plusW (vn, vd, 0) (-on) od) (over sn sd).1 (over sn sd).2) := by
    unfold rawR
    rw [if_neg (fun h => h hr), if_neg hz, if_neg (fun h => h.elim ho hs)]
  rw [e]
  refine ⟨fun h => ?_, fun p h => ?_⟩
  · have : plusW (vn, vd, 0) (-on) od = (0, 0, 2) := by
      unfold plusW told
      rw [if_pos rfl, if_pos ⟨hr.2, hno⟩]
      simp only [h]
    rw [this]
    rfl
  · have h2 : plusW (vn, vd, 0) (-on) od = (p.1, p.2, 0) := by
      unfold plusW told
      rw [if_pos rfl, if_pos ⟨hr.2, hno⟩]
      simp only [h]
    have h3 := (add_val hr.2 hno h).1
    have h4 := add_In hr.2 hno p h
    rw [h2]
    refine ⟨h3, h4.1, h4.2, fun k => ?_, fun q k => ?_⟩
    · have : timesW (p.1, p.2, 0) (over sn sd).1 (over sn sd).2 = (0, 0, 2) := by
        unfold timesW told
        rw [if_pos rfl, if_pos ⟨h3, hb⟩]
        simp only [k]
      rw [this]
      rfl
    · have : timesW (p.1, p.2, 0) (over sn sd).1 (over sn sd).2 = (q.1, q.2, 0) := by
        unfold timesW told
        rw [if_pos rfl, if_pos ⟨h3, hb⟩]
        simp only [k]
      rw [this]
      rfl

set_option maxRecDepth 100000 in
set_option maxHeartbeats 4000000 in
theorem wrong1 (f0 : ByteArray) (f1 : Int) (f2 : ByteArray) (f3 sn sd on od : Int) (f8 : ByteArray) (vn vd : Int) (hsn : I64 sn) (hsd : I64 sd) (hon : I64 on) (hod : I64 od) (hvn : I64 vn) (hvd : I64 vd) (h : ¬ Rt sn sd) (w : World) :
    Calls Try.prog 26 #[.agg #[.string f0, .int .i64 f1, .string f2, .int .i64 f3, .int .i64 sn, .int .i64 sd, .int .i64 on, .int .i64 od, .string f8], .agg #[.int .i64 vn, .int .i64 vd]] w fun e w' => e = .returned (.tuple #[.int .i64 0, .int .i64 1]) ∧ Below w.heap.size w w' := by
  have hR1 := fun w => ref_right_calls hsn hsd w
  simp only [decide_eq_false h] at hR1
  have R1 := Lib.hid hR1
  clear hR1
  have hB := b2_start w (.cells #[.string f0, .int .i64 f1, .string f2, .int .i64 f3, .int .i64 sn, .int .i64 sd, .int .i64 on, .int .i64 od, .string f8] 25) (.cells #[.int .i64 vn, .int .i64 vd] 23)
  have a0 : ((w.alloc (.cells #[.string f0, .int .i64 f1, .string f2, .int .i64 f3, .int .i64 sn, .int .i64 sd, .int .i64 on, .int .i64 od, .string f8] 25)).alloc (.cells #[.int .i64 vn, .int .i64 vd] 23)).cell? ⟨w.heap.size, 0, none⟩ = some (.string f0) := blk_cell hB.b1 0
  have a1 : ((w.alloc (.cells #[.string f0, .int .i64 f1, .string f2, .int .i64 f3, .int .i64 sn, .int .i64 sd, .int .i64 on, .int .i64 od, .string f8] 25)).alloc (.cells #[.int .i64 vn, .int .i64 vd] 23)).cell? ⟨w.heap.size, 1, none⟩ = some (.int .i64 f1) := blk_cell hB.b1 1
  have a2 : ((w.alloc (.cells #[.string f0, .int .i64 f1, .string f2, .int .i64 f3, .int .i64 sn, .int .i64 sd, .int .i64 on, .int .i64 od, .string f8] 25)).alloc (.cells #[.int .i64 vn, .int .i64 vd] 23)).cell? ⟨w.heap.size, 2, none⟩ = some (.string f2) := blk_cell hB.b1 2
  have a3 : ((w.alloc (.cells #[.string f0, .int .i64 f1, .string f2, .int .i64 f3, .int .i64 sn, .int .i64 sd, .int .i64 on, .int .i64 od, .string f8] 25)).alloc (.cells #[.int .i64 vn, .int .i64 vd] 23)).cell? ⟨w.heap.size, 3, none⟩ = some (.int .i64 f3) := blk_cell hB.b1 3
  have a4 : ((w.alloc (.cells #[.string f0, .int .i64 f1, .string f2, .int .i64 f3, .int .i64 sn, .int .i64 sd, .int .i64 on, .int .i64 od, .string f8] 25)).alloc (.cells #[.int .i64 vn, .int .i64 vd] 23)).cell? ⟨w.heap.size, 4, none⟩ = some (.int .i64 sn) := blk_cell hB.b1 4
  have a5 : ((w.alloc (.cells #[.string f0, .int .i64 f1, .string f2, .int .i64 f3, .int .i64 sn, .int .i64 sd, .int .i64 on, .int .i64 od, .string f8] 25)).alloc (.cells #[.int .i64 vn, .int .i64 vd] 23)).cell? ⟨w.heap.size, 5, none⟩ = some (.int .i64 sd) := blk_cell hB.b1 5
  have a6 : ((w.alloc (.cells #[.string f0, .int .i64 f1, .string f2, .int .i64 f3, .int .i64 sn, .int .i64 sd, .int .i64 on, .int .i64 od, .string f8] 25)).alloc (.cells #[.int .i64 vn, .int .i64 vd] 23)).cell? ⟨w.heap.size, 6, none⟩ = some (.int .i64 on) := blk_cell hB.b1 6
  have a7 : ((w.alloc (.cells #[.string f0, .int .i64 f1, .string f2, .int .i64 f3, .int .i64 sn, .int .i64 sd, .int .i64 on, .int .i64 od, .string f8] 25)).alloc (.cells #[.int .i64 vn, .int .i64 vd] 23)).cell? ⟨w.heap.size, 7, none⟩ = some (.int .i64 od) := blk_cell hB.b1 7
  have a8 : ((w.alloc (.cells #[.string f0, .int .i64 f1, .string f2, .int .i64 f3, .int .i64 sn, .int .i64 sd, .int .i64 on, .int .i64 od, .string f8] 25)).alloc (.cells #[.int .i64 vn, .int .i64 vd] 23)).cell? ⟨w.heap.size, 8, none⟩ = some (.string f8) := blk_cell hB.b1 8
  have b0 : ((w.alloc (.cells #[.string f0, .int .i64 f1, .string f2, .int .i64 f3, .int .i64 sn, .int .i64 sd, .int .i64 on, .int .i64 od, .string f8] 25)).alloc (.cells #[.int .i64 vn, .int .i64 vd] 23)).cell? ⟨w.heap.size + 1, 0, none⟩ = some (.int .i64 vn) := blk_cell hB.b2 0
  have b1 : ((w.alloc (.cells #[.string f0, .int .i64 f1, .string f2, .int .i64 f3, .int .i64 sn, .int .i64 sd, .int .i64 on, .int .i64 od, .string f8] 25)).alloc (.cells #[.int .i64 vn, .int .i64 vd] 23)).cell? ⟨w.heap.size + 1, 1, none⟩ = some (.int .i64 vd) := blk_cell hB.b2 1
  go_enter Try.func26, Try.ntmps26
  go_wp2_with fail
  refine (R1.out _).mono ?_
  rintro e w1 ⟨rfl, hb_⟩
  replace hB := hB.step hb_
  clear hb_ a0 a1 a2 a3 a4 a5 a6 a7 a8 b0 b1
  have a0 : w1.cell? ⟨w.heap.size, 0, none⟩ = some (.string f0) := blk_cell hB.b1 0
  have a1 : w1.cell? ⟨w.heap.size, 1, none⟩ = some (.int .i64 f1) := blk_cell hB.b1 1
  have a2 : w1.cell? ⟨w.heap.size, 2, none⟩ = some (.string f2) := blk_cell hB.b1 2
  have a3 : w1.cell? ⟨w.heap.size, 3, none⟩ = some (.int .i64 f3) := blk_cell hB.b1 3
  have a4 : w1.cell? ⟨w.heap.size, 4, none⟩ = some (.int .i64 sn) := blk_cell hB.b1 4
  have a5 : w1.cell? ⟨w.heap.size, 5, none⟩ = some (.int .i64 sd) := blk_cell hB.b1 5
  have a6 : w1.cell? ⟨w.heap.size, 6, none⟩ = some (.int .i64 on) := blk_cell hB.b1 6
  have a7 : w1.cell? ⟨w.heap.size, 7, none⟩ = some (.int .i64 od) := blk_cell hB.b1 7
  have a8 : w1.cell? ⟨w.heap.size, 8, none⟩ = some (.string f8) := blk_cell hB.b1 8
  have b0 : w1.cell? ⟨w.heap.size + 1, 0, none⟩ = some (.int .i64 vn) := blk_cell hB.b2 0
  have b1 : w1.cell? ⟨w.heap.size + 1, 1, none⟩ = some (.int .i64 vd) := blk_cell hB.b2 1
  go_wp2_with fail
  go_ret2
  exact ⟨rfl, hB.be⟩

set_option maxRecDepth 100000 in
set_option maxHeartbeats 4000000 in
theorem wrong2 (f0 : ByteArray) (f1 : Int) (f2 : ByteArray) (f3 sn sd on od : Int) (f8 : ByteArray) (vn vd : Int) (hsn : I64 sn) (hsd : I64 sd) (hon : I64 on) (hod : I64 od) (hvn : I64 vn) (hvd : I64 vd) (h : Rt sn sd) (h2 : ¬ Rt on od) (w : World) :
    Calls Try.prog 26 #[.agg #[.string f0, .int .i64 f1, .string f2, .int .i64 f3, .int .i64 sn, .int .i64 sd, .int .i64 on, .int .i64 od, .string f8], .agg #[.int .i64 vn, .int .i64 vd]] w fun e w' => e = .returned (.tuple #[.int .i64 0, .int .i64 1]) ∧ Below w.heap.size w w' := by
  have hR1 := fun w => ref_right_calls hsn hsd w
  simp only [decide_eq_true h] at hR1
  have R1 := Lib.hid hR1
  clear hR1
  have hR2 := fun w => ref_right_calls hon hod w
  simp only [decide_eq_false h2] at hR2
  have R2 := Lib.hid hR2
  clear hR2
  have hB := b2_start w (.cells #[.string f0, .int .i64 f1, .string f2, .int .i64 f3, .int .i64 sn, .int .i64 sd, .int .i64 on, .int .i64 od, .string f8] 25) (.cells #[.int .i64 vn, .int .i64 vd] 23)
  have a0 : ((w.alloc (.cells #[.string f0, .int .i64 f1, .string f2, .int .i64 f3, .int .i64 sn, .int .i64 sd, .int .i64 on, .int .i64 od, .string f8] 25)).alloc (.cells #[.int .i64 vn, .int .i64 vd] 23)).cell? ⟨w.heap.size, 0, none⟩ = some (.string f0) := blk_cell hB.b1 0
  have a1 : ((w.alloc (.cells #[.string f0, .int .i64 f1, .string f2, .int .i64 f3, .int .i64 sn, .int .i64 sd, .int .i64 on, .int .i64 od, .string f8] 25)).alloc (.cells #[.int .i64 vn, .int .i64 vd] 23)).cell? ⟨w.heap.size, 1, none⟩ = some (.int .i64 f1) := blk_cell hB.b1 1
  have a2 : ((w.alloc (.cells #[.string f0, .int .i64 f1, .string f2, .int .i64 f3, .int .i64 sn, .int .i64 sd, .int .i64 on, .int .i64 od, .string f8] 25)).alloc (.cells #[.int .i64 vn, .int .i64 vd] 23)).cell? ⟨w.heap.size, 2, none⟩ = some (.string f2) := blk_cell hB.b1 2
  have a3 : ((w.alloc (.cells #[.string f0, .int .i64 f1, .string f2, .int .i64 f3, .int .i64 sn, .int .i64 sd, .int .i64 on, .int .i64 od, .string f8] 25)).alloc (.cells #[.int .i64 vn, .int .i64 vd] 23)).cell? ⟨w.heap.size, 3, none⟩ = some (.int .i64 f3) := blk_cell hB.b1 3
  have a4 : ((w.alloc (.cells #[.string f0, .int .i64 f1, .string f2, .int .i64 f3, .int .i64 sn, .int .i64 sd, .int .i64 on, .int .i64 od, .string f8] 25)).alloc (.cells #[.int .i64 vn, .int .i64 vd] 23)).cell? ⟨w.heap.size, 4, none⟩ = some (.int .i64 sn) := blk_cell hB.b1 4
  have a5 : ((w.alloc (.cells #[.string f0, .int .i64 f1, .string f2, .int .i64 f3, .int .i64 sn, .int .i64 sd, .int .i64 on, .int .i64 od, .string f8] 25)).alloc (.cells #[.int .i64 vn, .int .i64 vd] 23)).cell? ⟨w.heap.size, 5, none⟩ = some (.int .i64 sd) := blk_cell hB.b1 5
  have a6 : ((w.alloc (.cells #[.string f0, .int .i64 f1, .string f2, .int .i64 f3, .int .i64 sn, .int .i64 sd, .int .i64 on, .int .i64 od, .string f8] 25)).alloc (.cells #[.int .i64 vn, .int .i64 vd] 23)).cell? ⟨w.heap.size, 6, none⟩ = some (.int .i64 on) := blk_cell hB.b1 6
  have a7 : ((w.alloc (.cells #[.string f0, .int .i64 f1, .string f2, .int .i64 f3, .int .i64 sn, .int .i64 sd, .int .i64 on, .int .i64 od, .string f8] 25)).alloc (.cells #[.int .i64 vn, .int .i64 vd] 23)).cell? ⟨w.heap.size, 7, none⟩ = some (.int .i64 od) := blk_cell hB.b1 7
  have a8 : ((w.alloc (.cells #[.string f0, .int .i64 f1, .string f2, .int .i64 f3, .int .i64 sn, .int .i64 sd, .int .i64 on, .int .i64 od, .string f8] 25)).alloc (.cells #[.int .i64 vn, .int .i64 vd] 23)).cell? ⟨w.heap.size, 8, none⟩ = some (.string f8) := blk_cell hB.b1 8
  have b0 : ((w.alloc (.cells #[.string f0, .int .i64 f1, .string f2, .int .i64 f3, .int .i64 sn, .int .i64 sd, .int .i64 on, .int .i64 od, .string f8] 25)).alloc (.cells #[.int .i64 vn, .int .i64 vd] 23)).cell? ⟨w.heap.size + 1, 0, none⟩ = some (.int .i64 vn) := blk_cell hB.b2 0
  have b1 : ((w.alloc (.cells #[.string f0, .int .i64 f1, .string f2, .int .i64 f3, .int .i64 sn, .int .i64 sd, .int .i64 on, .int .i64 od, .string f8] 25)).alloc (.cells #[.int .i64 vn, .int .i64 vd] 23)).cell? ⟨w.heap.size + 1, 1, none⟩ = some (.int .i64 vd) := blk_cell hB.b2 1
  go_enter Try.func26, Try.ntmps26
  go_wp2_with fail
  refine (R1.out _).mono ?_
  rintro e w1 ⟨rfl, hb_⟩
  replace hB := hB.step hb_
  clear hb_ a0 a1 a2 a3 a4 a5 a6 a7 a8 b0 b1
  have a0 : w1.cell? ⟨w.heap.size, 0, none⟩ = some (.string f0) := blk_cell hB.b1 0
  have a1 : w1.cell? ⟨w.heap.size, 1, none⟩ = some (.int .i64 f1) := blk_cell hB.b1 1
  have a2 : w1.cell? ⟨w.heap.size, 2, none⟩ = some (.string f2) := blk_cell hB.b1 2
  have a3 : w1.cell? ⟨w.heap.size, 3, none⟩ = some (.int .i64 f3) := blk_cell hB.b1 3
  have a4 : w1.cell? ⟨w.heap.size, 4, none⟩ = some (.int .i64 sn) := blk_cell hB.b1 4
  have a5 : w1.cell? ⟨w.heap.size, 5, none⟩ = some (.int .i64 sd) := blk_cell hB.b1 5
  have a6 : w1.cell? ⟨w.heap.size, 6, none⟩ = some (.int .i64 on) := blk_cell hB.b1 6
  have a7 : w1.cell? ⟨w.heap.size, 7, none⟩ = some (.int .i64 od) := blk_cell hB.b1 7
  have a8 : w1.cell? ⟨w.heap.size, 8, none⟩ = some (.string f8) := blk_cell hB.b1 8
  have b0 : w1.cell? ⟨w.heap.size + 1, 0, none⟩ = some (.int .i64 vn) := blk_cell hB.b2 0
  have b1 : w1.cell? ⟨w.heap.size + 1, 1, none⟩ = some (.int .i64 vd) := blk_cell hB.b2 1
  go_wp2_with fail
  refine (R2.out _).mono ?_
  rintro e w2 ⟨rfl, hb_⟩
  replace hB := hB.step hb_
  clear hb_ a0 a1 a2 a3 a4 a5 a6 a7 a8 b0 b1
  have a0 : w2.cell? ⟨w.heap.size, 0, none⟩ = some (.string f0) := blk_cell hB.b1 0
  have a1 : w2.cell? ⟨w.heap.size, 1, none⟩ = some (.int .i64 f1) := blk_cell hB.b1 1
  have a2 : w2.cell? ⟨w.heap.size, 2, none⟩ = some (.string f2) := blk_cell hB.b1 2
  have a3 : w2.cell? ⟨w.heap.size, 3, none⟩ = some (.int .i64 f3) := blk_cell hB.b1 3
  have a4 : w2.cell? ⟨w.heap.size, 4, none⟩ = some (.int .i64 sn) := blk_cell hB.b1 4
  have a5 : w2.cell? ⟨w.heap.size, 5, none⟩ = some (.int .i64 sd) := blk_cell hB.b1 5
  have a6 : w2.cell? ⟨w.heap.size, 6, none⟩ = some (.int .i64 on) := blk_cell hB.b1 6
  have a7 : w2.cell? ⟨w.heap.size, 7, none⟩ = some (.int .i64 od) := blk_cell hB.b1 7
  have a8 : w2.cell? ⟨w.heap.size, 8, none⟩ = some (.string f8) := blk_cell hB.b1 8
  have b0 : w2.cell? ⟨w.heap.size + 1, 0, none⟩ = some (.int .i64 vn) := blk_cell hB.b2 0
  have b1 : w2.cell? ⟨w.heap.size + 1, 1, none⟩ = some (.int .i64 vd) := blk_cell hB.b2 1
  go_wp2_with fail
  go_ret2
  exact ⟨rfl, hB.be⟩

set_option maxRecDepth 100000 in
set_option maxHeartbeats 4000000 in
theorem wrong3 (f0 : ByteArray) (f1 : Int) (f2 : ByteArray) (f3 sn sd on od : Int) (f8 : ByteArray) (vn vd : Int) (hsn : I64 sn) (hsd : I64 sd) (hon : I64 on) (hod : I64 od) (hvn : I64 vn) (hvd : I64 vd) (h : Rt sn sd) (h2 : Rt on od) (h3 : ¬ Rt vn vd) (w : World) :
    Calls Try.prog 26 #[.agg #[.string f0, .int .i64 f1, .string f2, .int .i64 f3, .int .i64 sn, .int .i64 sd, .int .i64 on, .int .i64 od, .string f8], .agg #[.int .i64 vn, .int .i64 vd]] w fun e w' => e = .returned (.tuple #[.int .i64 0, .int .i64 1]) ∧ Below w.heap.size w w' := by
  have hR1 := fun w => ref_right_calls hsn hsd w
  simp only [decide_eq_true h] at hR1
  have R1 := Lib.hid hR1
  clear hR1
  have hR2 := fun w => ref_right_calls hon hod w
  simp only [decide_eq_true h2] at hR2
  have R2 := Lib.hid hR2
  clear hR2
  have hR3 := fun w => ref_right_calls hvn hvd w
  simp only [decide_eq_false h3] at hR3
  have R3 := Lib.hid hR3
  clear hR3
  have hB := b2_start w (.cells #[.string f0, .int .i64 f1, .string f2, .int .i64 f3, .int .i64 sn, .int .i64 sd, .int .i64 on, .int .i64 od, .string f8] 25) (.cells #[.int .i64 vn, .int .i64 vd] 23)
  have a0 : ((w.alloc (.cells #[.string f0, .int .i64 f1, .string f2, .int .i64 f3, .int .i64 sn, .int .i64 sd, .int .i64 on, .int .i64 od, .string f8] 25)).alloc (.cells #[.int .i64 vn, .int .i64 vd] 23)).cell? ⟨w.heap.size, 0, none⟩ = some (.string f0) := blk_cell hB.b1 0
  have a1 : ((w.alloc (.cells #[.string f0, .int .i64 f1, .string f2, .int .i64 f3, .int .i64 sn, .int .i64 sd, .int .i64 on, .int .i64 od, .string f8] 25)).alloc (.cells #[.int .i64 vn, .int .i64 vd] 23)).cell? ⟨w.heap.size, 1, none⟩ = some (.int .i64 f1) := blk_cell hB.b1 1
  have a2 : ((w.alloc (.cells #[.string f0, .int .i64 f1, .string f2, .int .i64 f3, .int .i64 sn, .int .i64 sd, .int .i64 on, .int .i64 od, .string f8] 25)).alloc (.cells #[.int .i64 vn, .int .i64 vd] 23)).cell? ⟨w.heap.size, 2, none⟩ = some (.string f2) := blk_cell hB.b1 2
  have a3 : ((w.alloc (.cells #[.string f0, .int .i64 f1, .string f2, .int .i64 f3, .int .i64 sn, .int .i64 sd, .int .i64 on, .int .i64 od, .string f8] 25)).alloc (.cells #[.int .i64 vn, .int .i64 vd] 23)).cell? ⟨w.heap.size, 3, none⟩ = some (.int .i64 f3) := blk_cell hB.b1 3
  have a4 : ((w.alloc (.cells #[.string f0, .int .i64 f1, .string f2, .int .i64 f3, .int .i64 sn, .int .i64 sd, .int .i64 on, .int .i64 od, .string f8] 25)).alloc (.cells #[.int .i64 vn, .int .i64 vd] 23)).cell? ⟨w.heap.size, 4, none⟩ = some (.int .i64 sn) := blk_cell hB.b1 4
  have a5 : ((w.alloc (.cells #[.string f0, .int .i64 f1, .string f2, .int .i64 f3, .int .i64 sn, .int .i64 sd, .int .i64 on, .int .i64 od, .string f8] 25)).alloc (.cells #[.int .i64 vn, .int .i64 vd] 23)).cell? ⟨w.heap.size, 5, none⟩ = some (.int .i64 sd) := blk_cell hB.b1 5
  have a6 : ((w.alloc (.cells #[.string f0, .int .i64 f1, .string f2, .int .i64 f3, .int .i64 sn, .int .i64 sd, .int .i64 on, .int .i64 od, .string f8] 25)).alloc (.cells #[.int .i64 vn, .int .i64 vd] 23)).cell? ⟨w.heap.size, 6, none⟩ = some (.int .i64 on) := blk_cell hB.b1 6
  have a7 : ((w.alloc (.cells #[.string f0, .int .i64 f1, .string f2, .int .i64 f3, .int .i64 sn, .int .i64 sd, .int .i64 on, .int .i64 od, .string f8] 25)).alloc (.cells #[.int .i64 vn, .int .i64 vd] 23)).cell? ⟨w.heap.size, 7, none⟩ = some (.int .i64 od) := blk_cell hB.b1 7
  have a8 : ((w.alloc (.cells #[.string f0, .int .i64 f1, .string f2, .int .i64 f3, .int .i64 sn, .int .i64 sd, .int .i64 on, .int .i64 od, .string f8] 25)).alloc (.cells #[.int .i64 vn, .int .i64 vd] 23)).cell? ⟨w.heap.size, 8, none⟩ = some (.string f8) := blk_cell hB.b1 8
  have b0 : ((w.alloc (.cells #[.string f0, .int .i64 f1, .string f2, .int .i64 f3, .int .i64 sn, .int .i64 sd, .int .i64 on, .int .i64 od, .string f8] 25)).alloc (.cells #[.int .i64 vn, .int .i64 vd] 23)).cell? ⟨w.heap.size + 1, 0, none⟩ = some (.int .i64 vn) := blk_cell hB.b2 0
  have b1 : ((w.alloc (.cells #[.string f0, .int .i64 f1, .string f2, .int .i64 f3, .int .i64 sn, .int .i64 sd, .int .i64 on, .int .i64 od, .string f8] 25)).alloc (.cells #[.int .i64 vn, .int .i64 vd] 23)).cell? ⟨w.heap.size + 1, 1, none⟩ = some (.int .i64 vd) := blk_cell hB.b2 1
  go_enter Try.func26, Try.ntmps26
  go_wp2_with fail
  refine (R1.out _).mono ?_
  rintro e w1 ⟨rfl, hb_⟩
  replace hB := hB.step hb_
  clear hb_ a0 a1 a2 a3 a4 a5 a6 a7 a8 b0 b1
  have a0 : w1.cell? ⟨w.heap.size, 0, none⟩ = some (.string f0) := blk_cell hB.b1 0
  have a1 : w1.cell? ⟨w.heap.size, 1, none⟩ = some (.int .i64 f1) := blk_cell hB.b1 1
  have a2 : w1.cell? ⟨w.heap.size, 2, none⟩ = some (.string f2) := blk_cell hB.b1 2
  have a3 : w1.cell? ⟨w.heap.size, 3, none⟩ = some (.int .i64 f3) := blk_cell hB.b1 3
  have a4 : w1.cell? ⟨w.heap.size, 4, none⟩ = some (.int .i64 sn) := blk_cell hB.b1 4
  have a5 : w1.cell? ⟨w.heap.size, 5, none⟩ = some (.int .i64 sd) := blk_cell hB.b1 5
  have a6 : w1.cell? ⟨w.heap.size, 6, none⟩ = some (.int .i64 on) := blk_cell hB.b1 6
  have a7 : w1.cell? ⟨w.heap.size, 7, none⟩ = some (.int .i64 od) := blk_cell hB.b1 7
  have a8 : w1.cell? ⟨w.heap.size, 8, none⟩ = some (.string f8) := blk_cell hB.b1 8
  have b0 : w1.cell? ⟨w.heap.size + 1, 0, none⟩ = some (.int .i64 vn) := blk_cell hB.b2 0
  have b1 : w1.cell? ⟨w.heap.size + 1, 1, none⟩ = some (.int .i64 vd) := blk_cell hB.b2 1
  go_wp2_with fail
  refine (R2.out _).mono ?_
  rintro e w2 ⟨rfl, hb_⟩
  replace hB := hB.step hb_
  clear hb_ a0 a1 a2 a3 a4 a5 a6 a7 a8 b0 b1
  have a0 : w2.cell? ⟨w.heap.size, 0, none⟩ = some (.string f0) := blk_cell hB.b1 0
  have a1 : w2.cell? ⟨w.heap.size, 1, none⟩ = some (.int .i64 f1) := blk_cell hB.b1 1
  have a2 : w2.cell? ⟨w.heap.size, 2, none⟩ = some (.string f2) := blk_cell hB.b1 2
  have a3 : w2.cell? ⟨w.heap.size, 3, none⟩ = some (.int .i64 f3) := blk_cell hB.b1 3
  have a4 : w2.cell? ⟨w.heap.size, 4, none⟩ = some (.int .i64 sn) := blk_cell hB.b1 4
  have a5 : w2.cell? ⟨w.heap.size, 5, none⟩ = some (.int .i64 sd) := blk_cell hB.b1 5
  have a6 : w2.cell? ⟨w.heap.size, 6, none⟩ = some (.int .i64 on) := blk_cell hB.b1 6
  have a7 : w2.cell? ⟨w.heap.size, 7, none⟩ = some (.int .i64 od) := blk_cell hB.b1 7
  have a8 : w2.cell? ⟨w.heap.size, 8, none⟩ = some (.string f8) := blk_cell hB.b1 8
  have b0 : w2.cell? ⟨w.heap.size + 1, 0, none⟩ = some (.int .i64 vn) := blk_cell hB.b2 0
  have b1 : w2.cell? ⟨w.heap.size + 1, 1, none⟩ = some (.int .i64 vd) := blk_cell hB.b2 1
  go_wp2_with fail
  refine (R3.out _).mono ?_
  rintro e w3 ⟨rfl, hb_⟩
  replace hB := hB.step hb_
  clear hb_ a0 a1 a2 a3 a4 a5 a6 a7 a8 b0 b1
  have a0 : w3.cell? ⟨w.heap.size, 0, none⟩ = some (.string f0) := blk_cell hB.b1 0
  have a1 : w3.cell? ⟨w.heap.size, 1, none⟩ = some (.int .i64 f1) := blk_cell hB.b1 1
  have a2 : w3.cell? ⟨w.heap.size, 2, none⟩ = some (.string f2) := blk_cell hB.b1 2
  have a3 : w3.cell? ⟨w.heap.size, 3, none⟩ = some (.int .i64 f3) := blk_cell hB.b1 3
  have a4 : w3.cell? ⟨w.heap.size, 4, none⟩ = some (.int .i64 sn) := blk_cell hB.b1 4
  have a5 : w3.cell? ⟨w.heap.size, 5, none⟩ = some (.int .i64 sd) := blk_cell hB.b1 5
  have a6 : w3.cell? ⟨w.heap.size, 6, none⟩ = some (.int .i64 on) := blk_cell hB.b1 6
  have a7 : w3.cell? ⟨w.heap.size, 7, none⟩ = some (.int .i64 od) := blk_cell hB.b1 7
  have a8 : w3.cell? ⟨w.heap.size, 8, none⟩ = some (.string f8) := blk_cell hB.b1 8
  have b0 : w3.cell? ⟨w.heap.size + 1, 0, none⟩ = some (.int .i64 vn) := blk_cell hB.b2 0
  have b1 : w3.cell? ⟨w.heap.size + 1, 1, none⟩ = some (.int .i64 vd) := blk_cell hB.b2 1
  go_wp2_with fail
  go_ret2
  exact ⟨rfl, hB.be⟩

set_option maxRecDepth 100000 in
set_option maxHeartbeats 4000000 in
theorem zero (f0 : ByteArray) (f1 : Int) (f2 : ByteArray) (f3 sn sd on od : Int) (f8 : ByteArray) (vn vd : Int) (hsn : I64 sn) (hsd : I64 sd) (hon : I64 on) (hod : I64 od) (hvn : I64 vn) (hvd : I64 vd) (h : Rt sn sd) (h2 : Rt on od) (h3 : Rt vn vd) (hz : sn = 0) (w : World) :
    Calls Try.prog 26 #[.agg #[.string f0, .int .i64 f1, .string f2, .int .i64 f3, .int .i64 sn, .int .i64 sd, .int .i64 on, .int .i64 od, .string f8], .agg #[.int .i64 vn, .int .i64 vd]] w fun e w' => e = .returned (.tuple #[.int .i64 0, .int .i64 3]) ∧ Below w.heap.size w w' := by
  have z1 : (sn == 0) = true := by simp [hz]
  clear hz
  have hR1 := fun w => ref_right_calls hsn hsd w
  simp only [decide_eq_true h] at hR1
  have R1 := Lib.hid hR1
  clear hR1
  have hR2 := fun w => ref_right_calls hon hod w
  simp only [decide_eq_true h2] at hR2
  have R2 := Lib.hid hR2
  clear hR2
  have hR3 := fun w => ref_right_calls hvn hvd w
  simp only [decide_eq_true h3] at hR3
  have R3 := Lib.hid hR3
  clear hR3
  have hB := b2_start w (.cells #[.string f0, .int .i64 f1, .string f2, .int .i64 f3, .int .i64 sn, .int .i64 sd, .int .i64 on, .int .i64 od, .string f8] 25) (.cells #[.int .i64 vn, .int .i64 vd] 23)
  have a0 : ((w.alloc (.cells #[.string f0, .int .i64 f1, .string f2, .int .i64 f3, .int .i64 sn, .int .i64 sd, .int .i64 on, .int .i64 od, .string f8] 25)).alloc (.cells #[.int .i64 vn, .int .i64 vd] 23)).cell? ⟨w.heap.size, 0, none⟩ = some (.string f0) := blk_cell hB.b1 0
  have a1 : ((w.alloc (.cells #[.string f0, .int .i64 f1, .string f2, .int .i64 f3, .int .i64 sn, .int .i64 sd, .int .i64 on, .int .i64 od, .string f8] 25)).alloc (.cells #[.int .i64 vn, .int .i64 vd] 23)).cell? ⟨w.heap.size, 1, none⟩ = some (.int .i64 f1) := blk_cell hB.b1 1
  have a2 : ((w.alloc (.cells #[.string f0, .int .i64 f1, .string f2, .int .i64 f3, .int .i64 sn, .int .i64 sd, .int .i64 on, .int .i64 od, .string f8] 25)).alloc (.cells #[.int .i64 vn, .int .i64 vd] 23)).cell? ⟨w.heap.size, 2, none⟩ = some (.string f2) := blk_cell hB.b1 2
  have a3 : ((w.alloc (.cells #[.string f0, .int .i64 f1, .string f2, .int .i64 f3, .int .i64 sn, .int .i64 sd, .int .i64 on, .int .i64 od, .string f8] 25)).alloc (.cells #[.int .i64 vn, .int .i64 vd] 23)).cell? ⟨w.heap.size, 3, none⟩ = some (.int .i64 f3) := blk_cell hB.b1 3
  have a4 : ((w.alloc (.cells #[.string f0, .int .i64 f1, .string f2, .int .i64 f3, .int .i64 sn, .int .i64 sd, .int .i64 on, .int .i64 od, .string f8] 25)).alloc (.cells #[.int .i64 vn, .int .i64 vd] 23)).cell? ⟨w.heap.size, 4, none⟩ = some (.int .i64 sn) := blk_cell hB.b1 4
  have a5 : ((w.alloc (.cells #[.string f0, .int .i64 f1, .string f2, .int .i64 f3, .int .i64 sn, .int .i64 sd, .int .i64 on, .int .i64 od, .string f8] 25)).alloc (.cells #[.int .i64 vn, .int .i64 vd] 23)).cell? ⟨w.heap.size, 5, none⟩ = some (.int .i64 sd) := blk_cell hB.b1 5
  have a6 : ((w.alloc (.cells #[.string f0, .int .i64 f1, .string f2, .int .i64 f3, .int .i64 sn, .int .i64 sd, .int .i64 on, .int .i64 od, .string f8] 25)).alloc (.cells #[.int .i64 vn, .int .i64 vd] 23)).cell? ⟨w.heap.size, 6, none⟩ = some (.int .i64 on) := blk_cell hB.b1 6
  have a7 : ((w.alloc (.cells #[.string f0, .int .i64 f1, .string f2, .int .i64 f3, .int .i64 sn, .int .i64 sd, .int .i64 on, .int .i64 od, .string f8] 25)).alloc (.cells #[.int .i64 vn, .int .i64 vd] 23)).cell? ⟨w.heap.size, 7, none⟩ = some (.int .i64 od) := blk_cell hB.b1 7
  have a8 : ((w.alloc (.cells #[.string f0, .int .i64 f1, .string f2, .int .i64 f3, .int .i64 sn, .int .i64 sd, .int .i64 on, .int .i64 od, .string f8] 25)).alloc (.cells #[.int .i64 vn, .int .i64 vd] 23)).cell? ⟨w.heap.size, 8, none⟩ = some (.string f8) := blk_cell hB.b1 8
  have b0 : ((w.alloc (.cells #[.string f0, .int .i64 f1, .string f2, .int .i64 f3, .int .i64 sn, .int .i64 sd, .int .i64 on, .int .i64 od, .string f8] 25)).alloc (.cells #[.int .i64 vn, .int .i64 vd] 23)).cell? ⟨w.heap.size + 1, 0, none⟩ = some (.int .i64 vn) := blk_cell hB.b2 0
  have b1 : ((w.alloc (.cells #[.string f0, .int .i64 f1, .string f2, .int .i64 f3, .int .i64 sn, .int .i64 sd, .int .i64 on, .int .i64 od, .string f8] 25)).alloc (.cells #[.int .i64 vn, .int .i64 vd] 23)).cell? ⟨w.heap.size + 1, 1, none⟩ = some (.int .i64 vd) := blk_cell hB.b2 1
  go_enter Try.func26, Try.ntmps26
  go_wp2_with fail
  refine (R1.out _).mono ?_
  rintro e w1 ⟨rfl, hb_⟩
  replace hB := hB.step hb_
  clear hb_ a0 a1 a2 a3 a4 a5 a6 a7 a8 b0 b1
  have a0 : w1.cell? ⟨w.heap.size, 0, none⟩ = some (.string f0) := blk_cell hB.b1 0
  have a1 : w1.cell? ⟨w.heap.size, 1, none⟩ = some (.int .i64 f1) := blk_cell hB.b1 1
  have a2 : w1.cell? ⟨w.heap.size, 2, none⟩ = some (.string f2) := blk_cell hB.b1 2
  have a3 : w1.cell? ⟨w.heap.size, 3, none⟩ = some (.int .i64 f3) := blk_cell hB.b1 3
  have a4 : w1.cell? ⟨w.heap.size, 4, none⟩ = some (.int .i64 sn) := blk_cell hB.b1 4
  have a5 : w1.cell? ⟨w.heap.size, 5, none⟩ = some (.int .i64 sd) := blk_cell hB.b1 5
  have a6 : w1.cell? ⟨w.heap.size, 6, none⟩ = some (.int .i64 on) := blk_cell hB.b1 6
  have a7 : w1.cell? ⟨w.heap.size, 7, none⟩ = some (.int .i64 od) := blk_cell hB.b1 7
  have a8 : w1.cell? ⟨w.heap.size, 8, none⟩ = some (.string f8) := blk_cell hB.b1 8
  have b0 : w1.cell? ⟨w.heap.size + 1, 0, none⟩ = some (.int .i64 vn) := blk_cell hB.b2 0
  have b1 : w1.cell? ⟨w.heap.size + 1, 1, none⟩ = some (.int .i64 vd) := blk_cell hB.b2 1
  go_wp2_with fail
  refine (R2.out _).mono ?_
  rintro e w2 ⟨rfl, hb_⟩
  replace hB := hB.step hb_
  clear hb_ a0 a1 a2 a3 a4 a5 a6 a7 a8 b0 b1
  have a0 : w2.cell? ⟨w.heap.size, 0, none⟩ = some (.string f0) := blk_cell hB.b1 0
  have a1 : w2.cell? ⟨w.heap.size, 1, none⟩ = some (.int .i64 f1) := blk_cell hB.b1 1
  have a2 : w2.cell? ⟨w.heap.size, 2, none⟩ = some (.string f2) := blk_cell hB.b1 2
  have a3 : w2.cell? ⟨w.heap.size, 3, none⟩ = some (.int .i64 f3) := blk_cell hB.b1 3
  have a4 : w2.cell? ⟨w.heap.size, 4, none⟩ = some (.int .i64 sn) := blk_cell hB.b1 4
  have a5 : w2.cell? ⟨w.heap.size, 5, none⟩ = some (.int .i64 sd) := blk_cell hB.b1 5
  have a6 : w2.cell? ⟨w.heap.size, 6, none⟩ = some (.int .i64 on) := blk_cell hB.b1 6
  have a7 : w2.cell? ⟨w.heap.size, 7, none⟩ = some (.int .i64 od) := blk_cell hB.b1 7
  have a8 : w2.cell? ⟨w.heap.size, 8, none⟩ = some (.string f8) := blk_cell hB.b1 8
  have b0 : w2.cell? ⟨w.heap.size + 1, 0, none⟩ = some (.int .i64 vn) := blk_cell hB.b2 0
  have b1 : w2.cell? ⟨w.heap.size + 1, 1, none⟩ = some (.int .i64 vd) := blk_cell hB.b2 1
  go_wp2_with fail
  refine (R3.out _).mono ?_
  rintro e w3 ⟨rfl, hb_⟩
  replace hB := hB.step hb_
  clear hb_ a0 a1 a2 a3 a4 a5 a6 a7 a8 b0 b1
  have a0 : w3.cell? ⟨w.heap.size, 0, none⟩ = some (.string f0) := blk_cell hB.b1 0
  have a1 : w3.cell? ⟨w.heap.size, 1, none⟩ = some (.int .i64 f1) := blk_cell hB.b1 1
  have a2 : w3.cell? ⟨w.heap.size, 2, none⟩ = some (.string f2) := blk_cell hB.b1 2
  have a3 : w3.cell? ⟨w.heap.size, 3, none⟩ = some (.int .i64 f3) := blk_cell hB.b1 3
  have a4 : w3.cell? ⟨w.heap.size, 4, none⟩ = some (.int .i64 sn) := blk_cell hB.b1 4
  have a5 : w3.cell? ⟨w.heap.size, 5, none⟩ = some (.int .i64 sd) := blk_cell hB.b1 5
  have a6 : w3.cell? ⟨w.heap.size, 6, none⟩ = some (.int .i64 on) := blk_cell hB.b1 6
  have a7 : w3.cell? ⟨w.heap.size, 7, none⟩ = some (.int .i64 od) := blk_cell hB.b1 7
  have a8 : w3.cell? ⟨w.heap.size, 8, none⟩ = some (.string f8) := blk_cell hB.b1 8
  have b0 : w3.cell? ⟨w.heap.size + 1, 0, none⟩ = some (.int .i64 vn) := blk_cell hB.b2 0
  have b1 : w3.cell? ⟨w.heap.size + 1, 1, none⟩ = some (.int .i64 vd) := blk_cell hB.b2 1
  go_wp2_with fail
  go_ret2
  exact ⟨rfl, hB.be⟩

set_option maxRecDepth 100000 in
set_option maxHeartbeats 4000000 in
theorem beyond1 (f0 : ByteArray) (f1 : Int) (f2 : ByteArray) (f3 sn sd on od : Int) (f8 : ByteArray) (vn vd : Int) (hsn : I64 sn) (hsd : I64 sd) (hon : I64 on) (hod : I64 od) (hvn : I64 vn) (hvd : I64 vd) (h : Rt sn sd) (h2 : Rt on od) (h3 : Rt vn vd) (hz : sn ≠ 0) (ho : on = -9223372036854775808) (w : World) :
    Calls Try.prog 26 #[.agg #[.string f0, .int .i64 f1, .string f2, .int .i64 f3, .int .i64 sn, .int .i64 sd, .int .i64 on, .int .i64 od, .string f8], .agg #[.int .i64 vn, .int .i64 vd]] w fun e w' => e = .returned (.tuple #[.int .i64 0, .int .i64 2]) ∧ Below w.heap.size w w' := by
  have z1 : (sn == 0) = false := by simp [hz]
  have z2 : (on == -9223372036854775808) = true := by simp [ho]
  clear ho
  have hR1 := fun w => ref_right_calls hsn hsd w
  simp only [decide_eq_true h] at hR1
  have R1 := Lib.hid hR1
  clear hR1
  have hR2 := fun w => ref_right_calls hon hod w
  simp only [decide_eq_true h2] at hR2
  have R2 := Lib.hid hR2
  clear hR2
  have hR3 := fun w => ref_right_calls hvn hvd w
  simp only [decide_eq_true h3] at hR3
  have R3 := Lib.hid hR3
  clear hR3
  have hB := b2_start w (.cells #[.string f0, .int .i64 f1, .string f2, .int .i64 f3, .int .i64 sn, .int .i64 sd, .int .i64 on, .int .i64 od, .string f8] 25) (.cells #[.int .i64 vn, .int .i64 vd] 23)
  have a0 : ((w.alloc (.cells #[.string f0, .int .i64 f1, .string f2, .int .i64 f3, .int .i64 sn, .int .i64 sd, .int .i64 on, .int .i64 od, .string f8] 25)).alloc (.cells #[.int .i64 vn, .int .i64 vd] 23)).cell? ⟨w.heap.size, 0, none⟩ = some (.string f0) := blk_cell hB.b1 0
  have a1 : ((w.alloc (.cells #[.string f0, .int .i64 f1, .string f2, .int .i64 f3, .int .i64 sn, .int .i64 sd, .int .i64 on, .int .i64 od, .string f8] 25)).alloc (.cells #[.int .i64 vn, .int .i64 vd] 23)).cell? ⟨w.heap.size, 1, none⟩ = some (.int .i64 f1) := blk_cell hB.b1 1
  have a2 : ((w.alloc (.cells #[.string f0, .int .i64 f1, .string f2, .int .i64 f3, .int .i64 sn, .int .i64 sd, .int .i64 on, .int .i64 od, .string f8] 25)).alloc (.cells #[.int .i64 vn, .int .i64 vd] 23)).cell? ⟨w.heap.size, 2, none⟩ = some (.string f2) := blk_cell hB.b1 2
  have a3 : ((w.alloc (.cells #[.string f0, .int .i64 f1, .string f2, .int .i64 f3, .int .i64 sn, .int .i64 sd, .int .i64 on, .int .i64 od, .string f8] 25)).alloc (.cells #[.int .i64 vn, .int .i64 vd] 23)).cell? ⟨w.heap.size, 3, none⟩ = some (.int .i64 f3) := blk_cell hB.b1 3
  have a4 : ((w.alloc (.cells #[.string f0, .int .i64 f1, .string f2, .int .i64 f3, .int .i64 sn, .int .i64 sd, .int .i64 on, .int .i64 od, .string f8] 25)).alloc (.cells #[.int .i64 vn, .int .i64 vd] 23)).cell? ⟨w.heap.size, 4, none⟩ = some (.int .i64 sn) := blk_cell hB.b1 4
  have a5 : ((w.alloc (.cells #[.string f0, .int .i64 f1, .string f2, .int .i64 f3, .int .i64 sn, .int .i64 sd, .int .i64 on, .int .i64 od, .string f8] 25)).alloc (.cells #[.int .i64 vn, .int .i64 vd] 23)).cell? ⟨w.heap.size, 5, none⟩ = some (.int .i64 sd) := blk_cell hB.b1 5
  have a6 : ((w.alloc (.cells #[.string f0, .int .i64 f1, .string f2, .int .i64 f3, .int .i64 sn, .int .i64 sd, .int .i64 on, .int .i64 od, .string f8] 25)).alloc (.cells #[.int .i64 vn, .int .i64 vd] 23)).cell? ⟨w.heap.size, 6, none⟩ = some (.int .i64 on) := blk_cell hB.b1 6
  have a7 : ((w.alloc (.cells #[.string f0, .int .i64 f1, .string f2, .int .i64 f3, .int .i64 sn, .int .i64 sd, .int .i64 on, .int .i64 od, .string f8] 25)).alloc (.cells #[.int .i64 vn, .int .i64 vd] 23)).cell? ⟨w.heap.size, 7, none⟩ = some (.int .i64 od) := blk_cell hB.b1 7
  have a8 : ((w.alloc (.cells #[.string f0, .int .i64 f1, .string f2, .int .i64 f3, .int .i64 sn, .int .i64 sd, .int .i64 on, .int .i64 od, .string f8] 25)).alloc (.cells #[.int .i64 vn, .int .i64 vd] 23)).cell? ⟨w.heap.size, 8, none⟩ = some (.string f8) := blk_cell hB.b1 8
  have b0 : ((w.alloc (.cells #[.string f0, .int .i64 f1, .string f2, .int .i64 f3, .int .i64 sn, .int .i64 sd, .int .i64 on, .int .i64 od, .string f8] 25)).alloc (.cells #[.int .i64 vn, .int .i64 vd] 23)).cell? ⟨w.heap.size + 1, 0, none⟩ = some (.int .i64 vn) := blk_cell hB.b2 0
  have b1 : ((w.alloc (.cells #[.string f0, .int .i64 f1, .string f2, .int .i64 f3, .int .i64 sn, .int .i64 sd, .int .i64 on, .int .i64 od, .string f8] 25)).alloc (.cells #[.int .i64 vn, .int .i64 vd] 23)).cell? ⟨w.heap.size + 1, 1, none⟩ = some (.int .i64 vd) := blk_cell hB.b2 1
  go_enter Try.func26, Try.ntmps26
  go_wp2_with fail
  refine (R1.out _).mono ?_
  rintro e w1 ⟨rfl, hb_⟩
  replace hB := hB.step hb_
  clear hb_ a0 a1 a2 a3 a4 a5 a6 a7 a8 b0 b1
  have a0 : w1.cell? ⟨w.heap.size, 0, none⟩ = some (.string f0) := blk_cell hB.b1 0
  have a1 : w1.cell? ⟨w.heap.size, 1, none⟩ = some (.int .i64 f1) := blk_cell hB.b1 1
  have a2 : w1.cell? ⟨w.heap.size, 2, none⟩ = some (.string f2) := blk_cell hB.b1 2
  have a3 : w1.cell? ⟨w.heap.size, 3, none⟩ = some (.int .i64 f3) := blk_cell hB.b1 3
  have a4 : w1.cell? ⟨w.heap.size, 4, none⟩ = some (.int .i64 sn) := blk_cell hB.b1 4
  have a5 : w1.cell? ⟨w.heap.size, 5, none⟩ = some (.int .i64 sd) := blk_cell hB.b1 5
  have a6 : w1.cell? ⟨w.heap.size, 6, none⟩ = some (.int .i64 on) := blk_cell hB.b1 6
  have a7 : w1.cell? ⟨w.heap.size, 7, none⟩ = some (.int .i64 od) := blk_cell hB.b1 7
  have a8 : w1.cell? ⟨w.heap.size, 8, none⟩ = some (.string f8) := blk_cell hB.b1 8
  have b0 : w1.cell? ⟨w.heap.size + 1, 0, none⟩ = some (.int .i64 vn) := blk_cell hB.b2 0
  have b1 : w1.cell? ⟨w.heap.size + 1, 1, none⟩ = some (.int .i64 vd) := blk_cell hB.b2 1
  go_wp2_with fail
  refine (R2.out _).mono ?_
  rintro e w2 ⟨rfl, hb_⟩
  replace hB := hB.step hb_
  clear hb_ a0 a1 a2 a3 a4 a5 a6 a7 a8 b0 b1
  have a0 : w2.cell? ⟨w.heap.size, 0, none⟩ = some (.string f0) := blk_cell hB.b1 0
  have a1 : w2.cell? ⟨w.heap.size, 1, none⟩ = some (.int .i64 f1) := blk_cell hB.b1 1
  have a2 : w2.cell? ⟨w.heap.size, 2, none⟩ = some (.string f2) := blk_cell hB.b1 2
  have a3 : w2.cell? ⟨w.heap.size, 3, none⟩ = some (.int .i64 f3) := blk_cell hB.b1 3
  have a4 : w2.cell? ⟨w.heap.size, 4, none⟩ = some (.int .i64 sn) := blk_cell hB.b1 4
  have a5 : w2.cell? ⟨w.heap.size, 5, none⟩ = some (.int .i64 sd) := blk_cell hB.b1 5
  have a6 : w2.cell? ⟨w.heap.size, 6, none⟩ = some (.int .i64 on) := blk_cell hB.b1 6
  have a7 : w2.cell? ⟨w.heap.size, 7, none⟩ = some (.int .i64 od) := blk_cell hB.b1 7
  have a8 : w2.cell? ⟨w.heap.size, 8, none⟩ = some (.string f8) := blk_cell hB.b1 8
  have b0 : w2.cell? ⟨w.heap.size + 1, 0, none⟩ = some (.int .i64 vn) := blk_cell hB.b2 0
  have b1 : w2.cell? ⟨w.heap.size + 1, 1, none⟩ = some (.int .i64 vd) := blk_cell hB.b2 1
  go_wp2_with fail
  refine (R3.out _).mono ?_
  rintro e w3 ⟨rfl, hb_⟩
  replace hB := hB.step hb_
  clear hb_ a0 a1 a2 a3 a4 a5 a6 a7 a8 b0 b1
  have a0 : w3.cell? ⟨w.heap.size, 0, none⟩ = some (.string f0) := blk_cell hB.b1 0
  have a1 : w3.cell? ⟨w.heap.size, 1, none⟩ = some (.int .i64 f1) := blk_cell hB.b1 1
  have a2 : w3.cell? ⟨w.heap.size, 2, none⟩ = some (.string f2) := blk_cell hB.b1 2
  have a3 : w3.cell? ⟨w.heap.size, 3, none⟩ = some (.int .i64 f3) := blk_cell hB.b1 3
  have a4 : w3.cell? ⟨w.heap.size, 4, none⟩ = some (.int .i64 sn) := blk_cell hB.b1 4
  have a5 : w3.cell? ⟨w.heap.size, 5, none⟩ = some (.int .i64 sd) := blk_cell hB.b1 5
  have a6 : w3.cell? ⟨w.heap.size, 6, none⟩ = some (.int .i64 on) := blk_cell hB.b1 6
  have a7 : w3.cell? ⟨w.heap.size, 7, none⟩ = some (.int .i64 od) := blk_cell hB.b1 7
  have a8 : w3.cell? ⟨w.heap.size, 8, none⟩ = some (.string f8) := blk_cell hB.b1 8
  have b0 : w3.cell? ⟨w.heap.size + 1, 0, none⟩ = some (.int .i64 vn) := blk_cell hB.b2 0
  have b1 : w3.cell? ⟨w.heap.size + 1, 1, none⟩ = some (.int .i64 vd) := blk_cell hB.b2 1
  go_wp2_with fail
  go_ret2
  exact ⟨rfl, hB.be⟩

set_option maxRecDepth 100000 in
set_option maxHeartbeats 4000000 in
theorem beyond2 (f0 : ByteArray) (f1 : Int) (f2 : ByteArray) (f3 sn sd on od : Int) (f8 : ByteArray) (vn vd : Int) (hsn : I64 sn) (hsd : I64 sd) (hon : I64 on) (hod : I64 od) (hvn : I64 vn) (hvd : I64 vd) (h : Rt sn sd) (h2 : Rt on od) (h3 : Rt vn vd) (ho : on ≠ -9223372036854775808) (hs : sn = -9223372036854775808) (w : World) :
    Calls Try.prog 26 #[.agg #[.string f0, .int .i64 f1, .string f2, .int .i64 f3, .int .i64 sn, .int .i64 sd, .int .i64 on, .int .i64 od, .string f8], .agg #[.int .i64 vn, .int .i64 vd]] w fun e w' => e = .returned (.tuple #[.int .i64 0, .int .i64 2]) ∧ Below w.heap.size w w' := by
  have z1 : (sn == 0) = false := by simp; omega
  have z2 : (on == -9223372036854775808) = false := by simp [ho]
  have z3 : (sn == -9223372036854775808) = true := by simp [hs]
  clear hs
  have hR1 := fun w => ref_right_calls hsn hsd w
  simp only [decide_eq_true h] at hR1
  have R1 := Lib.hid hR1
  clear hR1
  have hR2 := fun w => ref_right_calls hon hod w
  simp only [decide_eq_true h2] at hR2
  have R2 := Lib.hid hR2
  clear hR2
  have hR3 := fun w => ref_right_calls hvn hvd w
  simp only [decide_eq_true h3] at hR3
  have R3 := Lib.hid hR3
  clear hR3
  have hB := b2_start w (.cells #[.string f0, .int .i64 f1, .string f2, .int .i64 f3, .int .i64 sn, .int .i64 sd, .int .i64 on, .int .i64 od, .string f8] 25) (.cells #[.int .i64 vn, .int .i64 vd] 23)
  have a0 : ((w.alloc (.cells #[.string f0, .int .i64 f1, .string f2, .int .i64 f3, .int .i64 sn, .int .i64 sd, .int .i64 on, .int .i64 od, .string f8] 25)).alloc (.cells #[.int .i64 vn, .int .i64 vd] 23)).cell? ⟨w.heap.size, 0, none⟩ = some (.string f0) := blk_cell hB.b1 0
  have a1 : ((w.alloc (.cells #[.string f0, .int .i64 f1, .string f2, .int .i64 f3, .int .i64 sn, .int .i64 sd, .int .i64 on, .int .i64 od, .string f8] 25)).alloc (.cells #[.int .i64 vn, .int .i64 vd] 23)).cell? ⟨w.heap.size, 1, none⟩ = some (.int .i64 f1) := blk_cell hB.b1 1
  have a2 : ((w.alloc (.cells #[.string f0, .int .i64 f1, .string f2, .int .i64 f3, .int .i64 sn, .int .i64 sd, .int .i64 on, .int .i64 od, .string f8] 25)).alloc (.cells #[.int .i64 vn, .int .i64 vd] 23)).cell? ⟨w.heap.size, 2, none⟩ = some (.string f2) := blk_cell hB.b1 2
  have a3 : ((w.alloc (.cells #[.string f0, .int .i64 f1, .string f2, .int .i64 f3, .int .i64 sn, .int .i64 sd, .int .i64 on, .int .i64 od, .string f8] 25)).alloc (.cells #[.int .i64 vn, .int .i64 vd] 23)).cell? ⟨w.heap.size, 3, none⟩ = some (.int .i64 f3) := blk_cell hB.b1 3
  have a4 : ((w.alloc (.cells #[.string f0, .int .i64 f1, .string f2, .int .i64 f3, .int .i64 sn, .int .i64 sd, .int .i64 on, .int .i64 od, .string f8] 25)).alloc (.cells #[.int .i64 vn, .int .i64 vd] 23)).cell? ⟨w.heap.size, 4, none⟩ = some (.int .i64 sn) := blk_cell hB.b1 4
  have a5 : ((w.alloc (.cells #[.string f0, .int .i64 f1, .string f2, .int .i64 f3, .int .i64 sn, .int .i64 sd, .int .i64 on, .int .i64 od, .string f8] 25)).alloc (.cells #[.int .i64 vn, .int .i64 vd] 23)).cell? ⟨w.heap.size, 5, none⟩ = some (.int .i64 sd) := blk_cell hB.b1 5
  have a6 : ((w.alloc (.cells #[.string f0, .int .i64 f1, .string f2, .int .i64 f3, .int .i64 sn, .int .i64 sd, .int .i64 on, .int .i64 od, .string f8] 25)).alloc (.cells #[.int .i64 vn, .int .i64 vd] 23)).cell? ⟨w.heap.size, 6, none⟩ = some (.int .i64 on) := blk_cell hB.b1 6
  have a7 : ((w.alloc (.cells #[.string f0, .int .i64 f1, .string f2, .int .i64 f3, .int .i64 sn, .int .i64 sd, .int .i64 on, .int .i64 od, .string f8] 25)).alloc (.cells #[.int .i64 vn, .int .i64 vd] 23)).cell? ⟨w.heap.size, 7, none⟩ = some (.int .i64 od) := blk_cell hB.b1 7
  have a8 : ((w.alloc (.cells #[.string f0, .int .i64 f1, .string f2, .int .i64 f3, .int .i64 sn, .int .i64 sd, .int .i64 on, .int .i64 od, .string f8] 25)).alloc (.cells #[.int .i64 vn, .int .i64 vd] 23)).cell? ⟨w.heap.size, 8, none⟩ = some (.string f8) := blk_cell hB.b1 8
  have b0 : ((w.alloc (.cells #[.string f0, .int .i64 f1, .string f2, .int .i64 f3, .int .i64 sn, .int .i64 sd, .int .i64 on, .int .i64 od, .string f8] 25)).alloc (.cells #[.int .i64 vn, .int .i64 vd] 23)).cell? ⟨w.heap.size + 1, 0, none⟩ = some (.int .i64 vn) := blk_cell hB.b2 0
  have b1 : ((w.alloc (.cells #[.string f0, .int .i64 f1, .string f2, .int .i64 f3, .int .i64 sn, .int .i64 sd, .int .i64 on, .int .i64 od, .string f8] 25)).alloc (.cells #[.int .i64 vn, .int .i64 vd] 23)).cell? ⟨w.heap.size + 1, 1, none⟩ = some (.int .i64 vd) := blk_cell hB.b2 1
  go_enter Try.func26, Try.ntmps26
  go_wp2_with fail
  refine (R1.out _).mono ?_
  rintro e w1 ⟨rfl, hb_⟩
  replace hB := hB.step hb_
  clear hb_ a0 a1 a2 a3 a4 a5 a6 a7 a8 b0 b1
  have a0 : w1.cell? ⟨w.heap.size, 0, none⟩ = some (.string f0) := blk_cell hB.b1 0
  have a1 : w1.cell? ⟨w.heap.size, 1, none⟩ = some (.int .i64 f1) := blk_cell hB.b1 1
  have a2 : w1.cell? ⟨w.heap.size, 2, none⟩ = some (.string f2) := blk_cell hB.b1 2
  have a3 : w1.cell? ⟨w.heap.size, 3, none⟩ = some (.int .i64 f3) := blk_cell hB.b1 3
  have a4 : w1.cell? ⟨w.heap.size, 4, none⟩ = some (.int .i64 sn) := blk_cell hB.b1 4
  have a5 : w1.cell? ⟨w.heap.size, 5, none⟩ = some (.int .i64 sd) := blk_cell hB.b1 5
  have a6 : w1.cell? ⟨w.heap.size, 6, none⟩ = some (.int .i64 on) := blk_cell hB.b1 6
  have a7 : w1.cell? ⟨w.heap.size, 7, none⟩ = some (.int .i64 od) := blk_cell hB.b1 7
  have a8 : w1.cell? ⟨w.heap.size, 8, none⟩ = some (.string f8) := blk_cell hB.b1 8
  have b0 : w1.cell? ⟨w.heap.size + 1, 0, none⟩ = some (.int .i64 vn) := blk_cell hB.b2 0
  have b1 : w1.cell? ⟨w.heap.size + 1, 1, none⟩ = some (.int .i64 vd) := blk_cell hB.b2 1
  go_wp2_with fail
  refine (R2.out _).mono ?_
  rintro e w2 ⟨rfl, hb_⟩
  replace hB := hB.step hb_
  clear hb_ a0 a1 a2 a3 a4 a5 a6 a7 a8 b0 b1
  have a0 : w2.cell? ⟨w.heap.size, 0, none⟩ = some (.string f0) := blk_cell hB.b1 0
  have a1 : w2.cell? ⟨w.heap.size, 1, none⟩ = some (.int .i64 f1) := blk_cell hB.b1 1
  have a2 : w2.cell? ⟨w.heap.size, 2, none⟩ = some (.string f2) := blk_cell hB.b1 2
  have a3 : w2.cell? ⟨w.heap.size, 3, none⟩ = some (.int .i64 f3) := blk_cell hB.b1 3
  have a4 : w2.cell? ⟨w.heap.size, 4, none⟩ = some (.int .i64 sn) := blk_cell hB.b1 4
  have a5 : w2.cell? ⟨w.heap.size, 5, none⟩ = some (.int .i64 sd) := blk_cell hB.b1 5
  have a6 : w2.cell? ⟨w.heap.size, 6, none⟩ = some (.int .i64 on) := blk_cell hB.b1 6
  have a7 : w2.cell? ⟨w.heap.size, 7, none⟩ = some (.int .i64 od) := blk_cell hB.b1 7
  have a8 : w2.cell? ⟨w.heap.size, 8, none⟩ = some (.string f8) := blk_cell hB.b1 8
  have b0 : w2.cell? ⟨w.heap.size + 1, 0, none⟩ = some (.int .i64 vn) := blk_cell hB.b2 0
  have b1 : w2.cell? ⟨w.heap.size + 1, 1, none⟩ = some (.int .i64 vd) := blk_cell hB.b2 1
  go_wp2_with fail
  refine (R3.out _).mono ?_
  rintro e w3 ⟨rfl, hb_⟩
  replace hB := hB.step hb_
  clear hb_ a0 a1 a2 a3 a4 a5 a6 a7 a8 b0 b1
  have a0 : w3.cell? ⟨w.heap.size, 0, none⟩ = some (.string f0) := blk_cell hB.b1 0
  have a1 : w3.cell? ⟨w.heap.size, 1, none⟩ = some (.int .i64 f1) := blk_cell hB.b1 1
  have a2 : w3.cell? ⟨w.heap.size, 2, none⟩ = some (.string f2) := blk_cell hB.b1 2
  have a3 : w3.cell? ⟨w.heap.size, 3, none⟩ = some (.int .i64 f3) := blk_cell hB.b1 3
  have a4 : w3.cell? ⟨w.heap.size, 4, none⟩ = some (.int .i64 sn) := blk_cell hB.b1 4
  have a5 : w3.cell? ⟨w.heap.size, 5, none⟩ = some (.int .i64 sd) := blk_cell hB.b1 5
  have a6 : w3.cell? ⟨w.heap.size, 6, none⟩ = some (.int .i64 on) := blk_cell hB.b1 6
  have a7 : w3.cell? ⟨w.heap.size, 7, none⟩ = some (.int .i64 od) := blk_cell hB.b1 7
  have a8 : w3.cell? ⟨w.heap.size, 8, none⟩ = some (.string f8) := blk_cell hB.b1 8
  have b0 : w3.cell? ⟨w.heap.size + 1, 0, none⟩ = some (.int .i64 vn) := blk_cell hB.b2 0
  have b1 : w3.cell? ⟨w.heap.size + 1, 1, none⟩ = some (.int .i64 vd) := blk_cell hB.b2 1
  go_wp2_with fail
  go_ret2
  exact ⟨rfl, hB.be⟩

set_option maxRecDepth 100000 in
set_option maxHeartbeats 4000000 in
theorem good_up (f0 : ByteArray) (f1 : Int) (f2 : ByteArray) (f3 sn sd on od : Int) (f8 : ByteArray) (vn vd : Int) (hsn : I64 sn) (hsd : I64 sd) (hon : I64 on) (hod : I64 od) (hvn : I64 vn) (hvd : I64 vd) (h : Rt sn sd) (h2 : Rt on od) (h3 : Rt vn vd) (hz : sn ≠ 0) (ho : on ≠ -9223372036854775808) (hs : sn ≠ -9223372036854775808) (hup : 0 < sn) (w : World) :
    Calls Try.prog 26 #[.agg #[.string f0, .int .i64 f1, .string f2, .int .i64 f3, .int .i64 sn, .int .i64 sd, .int .i64 on, .int .i64 od, .string f8], .agg #[.int .i64 vn, .int .i64 vd]] w fun e w' => e = .returned (.tuple #[.int .i64 (rawR sn sd on od vn vd).1, .int .i64 (rawR sn sd on od vn vd).2]) ∧ Below w.heap.size w w' := by
  have z1 : (sn == 0) = false := by simp [hz]
  have z2 : (on == -9223372036854775808) = false := by simp [ho]
  have z3 : (sn == -9223372036854775808) = false := by simp [hs]
  have hf := raw_facts ⟨⟨h, h2⟩, h3⟩ hz ho hs
  have hov : over sn sd = (sd, sn) := by unfold over; rw [if_pos hup]
  have hoR := (over_Rt h hz).1
  rw [hov] at hf hoR
  have p0 := h.1
  have ino : I64 (-on) := by unfold I64 at *; omega
  have ib1 : I64 (sd) := by unfold I64 at *; omega
  have ib2 : I64 (sn) := by unfold I64 at *; omega
  have hno := Rt_neg h2
  have hA := fun w => refadd_calls hvn hvd ino hod h3 hno w
  obtain ⟨X, hX⟩ : ∃ X, addR vn vd (-on) od = X := ⟨_, rfl⟩
  rw [hX] at hf
  simp only [hX, ansB] at hA
  clear hX
  obtain ⟨⟨r1, r2⟩, hrr⟩ : ∃ r, rawR sn sd on od vn vd = r := ⟨_, rfl⟩
  rw [hrr] at hf ⊢
  clear hrr hov
  have eno : IntKind.i64.wrap (-on) = -on := by rw [i64_w]; exact wrap_in ino
  have z4 : decide (sn < 0) = false := by simp; omega
  have hR1 := fun w => ref_right_calls hsn hsd w
  simp only [decide_eq_true h] at hR1
  have R1 := Lib.hid hR1
  clear hR1
  have hR2 := fun w => ref_right_calls hon hod w
  simp only [decide_eq_true h2] at hR2
  have R2 := Lib.hid hR2
  clear hR2
  have hR3 := fun w => ref_right_calls hvn hvd w
  simp only [decide_eq_true h3] at hR3
  have R3 := Lib.hid hR3
  clear hR3
  have FF := Lib.hid hf
  have HA := Lib.hid hA
  have OR := Lib.hid hoR
  clear hf hA hoR h h2 h3 hno
  have hB := b2_start w (.cells #[.string f0, .int .i64 f1, .string f2, .int .i64 f3, .int .i64 sn, .int .i64 sd, .int .i64 on, .int .i64 od, .string f8] 25) (.cells #[.int .i64 vn, .int .i64 vd] 23)
  have a0 : ((w.alloc (.cells #[.string f0, .int .i64 f1, .string f2, .int .i64 f3, .int .i64 sn, .int .i64 sd, .int .i64 on, .int .i64 od, .string f8] 25)).alloc (.cells #[.int .i64 vn, .int .i64 vd] 23)).cell? ⟨w.heap.size, 0, none⟩ = some (.string f0) := blk_cell hB.b1 0
  have a1 : ((w.alloc (.cells #[.string f0, .int .i64 f1, .string f2, .int .i64 f3, .int .i64 sn, .int .i64 sd, .int .i64 on, .int .i64 od, .string f8] 25)).alloc (.cells #[.int .i64 vn, .int .i64 vd] 23)).cell? ⟨w.heap.size, 1, none⟩ = some (.int .i64 f1) := blk_cell hB.b1 1
  have a2 : ((w.alloc (.cells #[.string f0, .int .i64 f1, .string f2, .int .i64 f3, .int .i64 sn, .int .i64 sd, .int .i64 on, .int .i64 od, .string f8] 25)).alloc (.cells #[.int .i64 vn, .int .i64 vd] 23)).cell? ⟨w.heap.size, 2, none⟩ = some (.string f2) := blk_cell hB.b1 2
  have a3 : ((w.alloc (.cells #[.string f0, .int .i64 f1, .string f2, .int .i64 f3, .int .i64 sn, .int .i64 sd, .int .i64 on, .int .i64 od, .string f8] 25)).alloc (.cells #[.int .i64 vn, .int .i64 vd] 23)).cell? ⟨w.heap.size, 3, none⟩ = some (.int .i64 f3) := blk_cell hB.b1 3
  have a4 : ((w.alloc (.cells #[.string f0, .int .i64 f1, .string f2, .int .i64 f3, .int .i64 sn, .int .i64 sd, .int .i64 on, .int .i64 od, .string f8] 25)).alloc (.cells #[.int .i64 vn, .int .i64 vd] 23)).cell? ⟨w.heap.size, 4, none⟩ = some (.int .i64 sn) := blk_cell hB.b1 4
  have a5 : ((w.alloc (.cells #[.string f0, .int .i64 f1, .string f2, .int .i64 f3, .int .i64 sn, .int .i64 sd, .int .i64 on, .int .i64 od, .string f8] 25)).alloc (.cells #[.int .i64 vn, .int .i64 vd] 23)).cell? ⟨w.heap.size, 5, none⟩ = some (.int .i64 sd) := blk_cell hB.b1 5
  have a6 : ((w.alloc (.cells #[.string f0, .int .i64 f1, .string f2, .int .i64 f3, .int .i64 sn, .int .i64 sd, .int .i64 on, .int .i64 od, .string f8] 25)).alloc (.cells #[.int .i64 vn, .int .i64 vd] 23)).cell? ⟨w.heap.size, 6, none⟩ = some (.int .i64 on) := blk_cell hB.b1 6
  have a7 : ((w.alloc (.cells #[.string f0, .int .i64 f1, .string f2, .int .i64 f3, .int .i64 sn, .int .i64 sd, .int .i64 on, .int .i64 od, .string f8] 25)).alloc (.cells #[.int .i64 vn, .int .i64 vd] 23)).cell? ⟨w.heap.size, 7, none⟩ = some (.int .i64 od) := blk_cell hB.b1 7
  have a8 : ((w.alloc (.cells #[.string f0, .int .i64 f1, .string f2, .int .i64 f3, .int .i64 sn, .int .i64 sd, .int .i64 on, .int .i64 od, .string f8] 25)).alloc (.cells #[.int .i64 vn, .int .i64 vd] 23)).cell? ⟨w.heap.size, 8, none⟩ = some (.string f8) := blk_cell hB.b1 8
  have b0 : ((w.alloc (.cells #[.string f0, .int .i64 f1, .string f2, .int .i64 f3, .int .i64 sn, .int .i64 sd, .int .i64 on, .int .i64 od, .string f8] 25)).alloc (.cells #[.int .i64 vn, .int .i64 vd] 23)).cell? ⟨w.heap.size + 1, 0, none⟩ = some (.int .i64 vn) := blk_cell hB.b2 0
  have b1 : ((w.alloc (.cells #[.string f0, .int .i64 f1, .string f2, .int .i64 f3, .int .i64 sn, .int .i64 sd, .int .i64 on, .int .i64 od, .string f8] 25)).alloc (.cells #[.int .i64 vn, .int .i64 vd] 23)).cell? ⟨w.heap.size + 1, 1, none⟩ = some (.int .i64 vd) := blk_cell hB.b2 1
  go_enter Try.func26, Try.ntmps26
  go_wp2_with fail
  refine (R1.out _).mono ?_
  rintro e w1 ⟨rfl, hb_⟩
  replace hB := hB.step hb_
  clear hb_ a0 a1 a2 a3 a4 a5 a6 a7 a8 b0 b1
  have a0 : w1.cell? ⟨w.heap.size, 0, none⟩ = some (.string f0) := blk_cell hB.b1 0
  have a1 : w1.cell? ⟨w.heap.size, 1, none⟩ = some (.int .i64 f1) := blk_cell hB.b1 1
  have a2 : w1.cell? ⟨w.heap.size, 2, none⟩ = some (.string f2) := blk_cell hB.b1 2
  have a3 : w1.cell? ⟨w.heap.size, 3, none⟩ = some (.int .i64 f3) := blk_cell hB.b1 3
  have a4 : w1.cell? ⟨w.heap.size, 4, none⟩ = some (.int .i64 sn) := blk_cell hB.b1 4
  have a5 : w1.cell? ⟨w.heap.size, 5, none⟩ = some (.int .i64 sd) := blk_cell hB.b1 5
  have a6 : w1.cell? ⟨w.heap.size, 6, none⟩ = some (.int .i64 on) := blk_cell hB.b1 6
  have a7 : w1.cell? ⟨w.heap.size, 7, none⟩ = some (.int .i64 od) := blk_cell hB.b1 7
  have a8 : w1.cell? ⟨w.heap.size, 8, none⟩ = some (.string f8) := blk_cell hB.b1 8
  have b0 : w1.cell? ⟨w.heap.size + 1, 0, none⟩ = some (.int .i64 vn) := blk_cell hB.b2 0
  have b1 : w1.cell? ⟨w.heap.size + 1, 1, none⟩ = some (.int .i64 vd) := blk_cell hB.b2 1
  go_wp2_with fail
  refine (R2.out _).mono ?_
  rintro e w2 ⟨rfl, hb_⟩
  replace hB := hB.step hb_
  clear hb_ a0 a1 a2 a3 a4 a5 a6 a7 a8 b0 b1
  have a0 : w2.cell? ⟨w.heap.size, 0, none⟩ = some (.string f0) := blk_cell hB.b1 0
  have a1 : w2.cell? ⟨w.heap.size, 1, none⟩ = some (.int .i64 f1) := blk_cell hB.b1 1
  have a2 : w2.cell? ⟨w.heap.size, 2, none⟩ = some (.string f2) := blk_cell hB.b1 2
  have a3 : w2.cell? ⟨w.heap.size, 3, none⟩ = some (.int .i64 f3) := blk_cell hB.b1 3
  have a4 : w2.cell? ⟨w.heap.size, 4, none⟩ = some (.int .i64 sn) := blk_cell hB.b1 4
  have a5 : w2.cell? ⟨w.heap.size, 5, none⟩ = some (.int .i64 sd) := blk_cell hB.b1 5
  have a6 : w2.cell? ⟨w.heap.size, 6, none⟩ = some (.int .i64 on) := blk_cell hB.b1 6
  have a7 : w2.cell? ⟨w.heap.size, 7, none⟩ = some (.int .i64 od) := blk_cell hB.b1 7
  have a8 : w2.cell? ⟨w.heap.size, 8, none⟩ = some (.string f8) := blk_cell hB.b1 8
  have b0 : w2.cell? ⟨w.heap.size + 1, 0, none⟩ = some (.int .i64 vn) := blk_cell hB.b2 0
  have b1 : w2.cell? ⟨w.heap.size + 1, 1, none⟩ = some (.int .i64 vd) := blk_cell hB.b2 1
  go_wp2_with fail
  refine (R3.out _).mono ?_
  rintro e w3 ⟨rfl, hb_⟩
  replace hB := hB.step hb_
  clear hb_ a0 a1 a2 a3 a4 a5 a6 a7 a8 b0 b1
  have a0 : w3.cell? ⟨w.heap.size, 0, none⟩ = some (.string f0) := blk_cell hB.b1 0
  have a1 : w3.cell? ⟨w.heap.size, 1, none⟩ = some (.int .i64 f1) := blk_cell hB.b1 1
  have a2 : w3.cell? ⟨w.heap.size, 2, none⟩ = some (.string f2) := blk_cell hB.b1 2
  have a3 : w3.cell? ⟨w.heap.size, 3, none⟩ = some (.int .i64 f3) := blk_cell hB.b1 3
  have a4 : w3.cell? ⟨w.heap.size, 4, none⟩ = some (.int .i64 sn) := blk_cell hB.b1 4
  have a5 : w3.cell? ⟨w.heap.size, 5, none⟩ = some (.int .i64 sd) := blk_cell hB.b1 5
  have a6 : w3.cell? ⟨w.heap.size, 6, none⟩ = some (.int .i64 on) := blk_cell hB.b1 6
  have a7 : w3.cell? ⟨w.heap.size, 7, none⟩ = some (.int .i64 od) := blk_cell hB.b1 7
  have a8 : w3.cell? ⟨w.heap.size, 8, none⟩ = some (.string f8) := blk_cell hB.b1 8
  have b0 : w3.cell? ⟨w.heap.size + 1, 0, none⟩ = some (.int .i64 vn) := blk_cell hB.b2 0
  have b1 : w3.cell? ⟨w.heap.size + 1, 1, none⟩ = some (.int .i64 vd) := blk_cell hB.b2 1
  have hw3 := hB.size
  have kx := blk_new w3 (.cells #[.int .i64 (sd), .int .i64 (sn)] 23)
  have hB4 := hB.step (below_alloc (Below.refl _ _) (.cells #[.int .i64 sd, .int .i64 sn] 23))
  have hBz := hB
  clear hB
  have hB := hB4
  clear hB4
  have hBa := b2_start w (.cells #[.string f0, .int .i64 f1, .string f2, .int .i64 f3, .int .i64 sn, .int .i64 sd, .int .i64 on, .int .i64 od, .string f8] 25) (.cells #[.int .i64 vn, .int .i64 vd] 23)
  clear hBa
  have kp := blk_new w3 (.cells #[.int .i64 sd, .int .i64 sn] 23)
  have hBp := hBz.step (below_alloc (Below.refl _ _) (.cells #[.int .i64 sd, .int .i64 sn] 23))
  have kk0 : (w3.alloc (.cells #[.int .i64 sd, .int .i64 sn] 23)).cell? ⟨w.heap.size, 0, none⟩ = some (.string f0) := blk_cell hBp.b1 0
  have kk1 : (w3.alloc (.cells #[.int .i64 sd, .int .i64 sn] 23)).cell? ⟨w.heap.size, 1, none⟩ = some (.int .i64 f1) := blk_cell hBp.b1 1
  have kk2 : (w3.alloc (.cells #[.int .i64 sd, .int .i64 sn] 23)).cell? ⟨w.heap.size, 2, none⟩ = some (.string f2) := blk_cell hBp.b1 2
  have kk3 : (w3.alloc (.cells #[.int .i64 sd, .int .i64 sn] 23)).cell? ⟨w.heap.size, 3, none⟩ = some (.int .i64 f3) := blk_cell hBp.b1 3
  have kk4 : (w3.alloc (.cells #[.int .i64 sd, .int .i64 sn] 23)).cell? ⟨w.heap.size, 4, none⟩ = some (.int .i64 sn) := blk_cell hBp.b1 4
  have kk5 : (w3.alloc (.cells #[.int .i64 sd, .int .i64 sn] 23)).cell? ⟨w.heap.size, 5, none⟩ = some (.int .i64 sd) := blk_cell hBp.b1 5
  have kk6 : (w3.alloc (.cells #[.int .i64 sd, .int .i64 sn] 23)).cell? ⟨w.heap.size, 6, none⟩ = some (.int .i64 on) := blk_cell hBp.b1 6
  have kk7 : (w3.alloc (.cells #[.int .i64 sd, .int .i64 sn] 23)).cell? ⟨w.heap.size, 7, none⟩ = some (.int .i64 od) := blk_cell hBp.b1 7
  have kk8 : (w3.alloc (.cells #[.int .i64 sd, .int .i64 sn] 23)).cell? ⟨w.heap.size, 8, none⟩ = some (.string f8) := blk_cell hBp.b1 8
  have x0 : (w3.alloc (.cells #[.int .i64 sd, .int .i64 sn] 23)).cell? ⟨w.heap.size + 1, 0, none⟩ = some (.int .i64 vn) := blk_cell hBp.b2 0
  have x1 : (w3.alloc (.cells #[.int .i64 sd, .int .i64 sn] 23)).cell? ⟨w.heap.size + 1, 1, none⟩ = some (.int .i64 vd) := blk_cell hBp.b2 1
  have y0 : (w3.alloc (.cells #[.int .i64 sd, .int .i64 sn] 23)).cell? ⟨w3.heap.size, 0, none⟩ = some (.int .i64 sd) := blk_cell kp 0
  have yf0 : (w3.alloc (.cells #[.int .i64 sd, .int .i64 sn] 23)).frozen? ⟨w3.heap.size, 0, none⟩ = false := blk_frozen kp 0
  have y1 : (w3.alloc (.cells #[.int .i64 sd, .int .i64 sn] 23)).cell? ⟨w3.heap.size, 1, none⟩ = some (.int .i64 sn) := blk_cell kp 1
  have yf1 : (w3.alloc (.cells #[.int .i64 sd, .int .i64 sn] 23)).frozen? ⟨w3.heap.size, 1, none⟩ = false := blk_frozen kp 1
  go_wp2_with fail
  cases X with
  | none =>
    have hres := FF.out.1 rfl
    cases hres
    refine (HA.out _).mono ?_
    rintro e w5 ⟨rfl, hb5⟩
    replace hB := hB.step hb5
    have hB9 := hB.step (below_alloc (Below.refl _ _) (.cells #[.int .i64 0, .int .i64 0] 23))
    simp only [toldB]
    go_wp2_with fail
    go_ret2
    exact ⟨rfl, hB9.be⟩
  | some p =>
    obtain ⟨p1, p2⟩ := p
    obtain ⟨hp, ip1, ip2, hn, hq⟩ := FF.out.2 (p1, p2) rfl
    have hM := fun w => refmul_calls ip1 ip2 ib1 ib2 hp OR.out w
    obtain ⟨Y, hY⟩ : ∃ Y, mulR p1 p2 (sd) (sn) = Y := ⟨_, rfl⟩
    have hn' : Y = none → (r1, r2) = (0, 2) := fun e => hn (hY.trans e)
    have hq' : ∀ q, Y = some q → (r1, r2) = if q.2 = 1 then (q.1, 0) else (0, 6) := fun q e => hq q (hY.trans e)
    simp only [hY, ansB] at hM
    have HM := Lib.hid hM
    have HN := Lib.hid hn'
    have HQ := Lib.hid hq'
    clear hY hM hn hq hn' hq' hp
    refine (HA.out _).mono ?_
    rintro e w5 ⟨rfl, hb5⟩
    have kx5 := blk_below kx hb5
    replace hB := hB.step hb5
    clear hb5 FF HA OR a0 a1 a2 a3 a4 a5 a6 a7 a8 b0 b1 kk0 kk1 kk2 kk3 kk4 kk5 kk6 kk7 kk8 x0 x1 y0 yf0 y1 yf1
    simp only [toldB]
    have h5 := hB.size
    have hlt5 := blk_lt kx5
    have kz := blk_new w5 (.cells #[.int .i64 p1, .int .i64 p2] 23)
    have kx6 := blk_below kx5 (below_alloc (Below.refl _ _) (.cells #[.int .i64 p1, .int .i64 p2] 23))
    replace hB := hB.step (below_alloc (Below.refl _ _) (.cells #[.int .i64 p1, .int .i64 p2] 23))
    have c0 : (w5.alloc (.cells #[.int .i64 p1, .int .i64 p2] 23)).cell? ⟨w5.heap.size, 0, none⟩ = some (.int .i64 p1) := blk_cell kz 0
    have c1 : (w5.alloc (.cells #[.int .i64 p1, .int .i64 p2] 23)).cell? ⟨w5.heap.size, 1, none⟩ = some (.int .i64 p2) := blk_cell kz 1
    have d0 : (w5.alloc (.cells #[.int .i64 p1, .int .i64 p2] 23)).cell? ⟨w3.heap.size, 0, none⟩ = some (.int .i64 sd) := blk_cell kx6 0
    have d1 : (w5.alloc (.cells #[.int .i64 p1, .int .i64 p2] 23)).cell? ⟨w3.heap.size, 1, none⟩ = some (.int .i64 sn) := blk_cell kx6 1
    go_wp2_with fail
    cases Y with
    | none =>
      have hres := HN.out rfl
      cases hres
      refine (HM.out _).mono ?_
      rintro e w6 ⟨rfl, hb6⟩
      have kz6 := blk_below kz hb6
      replace hB := hB.step hb6
      simp only [toldB]
      clear hb6 c0 c1 d0 d1
      have c0 : w6.cell? ⟨w5.heap.size, 0, none⟩ = some (.int .i64 p1) := blk_cell kz6 0
      have cf0 : w6.frozen? ⟨w5.heap.size, 0, none⟩ = false := blk_frozen kz6 0
      have c1 : w6.cell? ⟨w5.heap.size, 1, none⟩ = some (.int .i64 p2) := blk_cell kz6 1
      have cf1 : w6.frozen? ⟨w5.heap.size, 1, none⟩ = false := blk_frozen kz6 1
      have hBs := (hB.be.setCell (p := ⟨w5.heap.size, 0, none⟩) (by show w.heap.size ≤ w5.heap.size; omega) (.int .i64 0)).setCell (p := ⟨w5.heap.size, 1, none⟩) (by show w.heap.size ≤ w5.heap.size; omega) (.int .i64 0)
      go_wp2_with fail
      go_ret2
      exact ⟨rfl, hBs⟩
    | some q =>
      obtain ⟨q1, q2⟩ := q
      have hres := HQ.out (q1, q2) rfl
      refine (HM.out _).mono ?_
      rintro e w6 ⟨rfl, hb6⟩
      have kz6 := blk_below kz hb6
      replace hB := hB.step hb6
      simp only [toldB]
      clear hb6 c0 c1 d0 d1
      have c0 : w6.cell? ⟨w5.heap.size, 0, none⟩ = some (.int .i64 p1) := blk_cell kz6 0
      have cf0 : w6.frozen? ⟨w5.heap.size, 0, none⟩ = false := blk_frozen kz6 0
      have c1 : w6.cell? ⟨w5.heap.size, 1, none⟩ = some (.int .i64 p2) := blk_cell kz6 1
      have cf1 : w6.frozen? ⟨w5.heap.size, 1, none⟩ = false := blk_frozen kz6 1
      have hBs := (hB.be.setCell (p := ⟨w5.heap.size, 0, none⟩) (by show w.heap.size ≤ w5.heap.size; omega) (.int .i64 q1)).setCell (p := ⟨w5.heap.size, 1, none⟩) (by show w.heap.size ≤ w5.heap.size; omega) (.int .i64 q2)
      by_cases h1 : q2 = 1
      · rw [if_pos h1] at hres
        cases hres
        have t1 : (q2 == 1) = true := by simp [h1]
        clear h1
        go_wp2_with fail
        go_ret2
        exact ⟨rfl, hBs⟩
      · rw [if_neg h1] at hres
        cases hres
        have t1 : (q2 == 1) = false := by simp [h1]
        go_wp2_with fail
        go_ret2
        exact ⟨rfl, hBs⟩

set_option maxRecDepth 100000 in
set_option maxHeartbeats 4000000 in
theorem good_down (f0 : ByteArray) (f1 : Int) (f2 : ByteArray) (f3 sn sd on od : Int) (f8 : ByteArray) (vn vd : Int) (hsn : I64 sn) (hsd : I64 sd) (hon : I64 on) (hod : I64 od) (hvn : I64 vn) (hvd : I64 vd) (h : Rt sn sd) (h2 : Rt on od) (h3 : Rt vn vd) (hz : sn ≠ 0) (ho : on ≠ -9223372036854775808) (hs : sn ≠ -9223372036854775808) (hdn : sn < 0) (w : World) :
    Calls Try.prog 26 #[.agg #[.string f0, .int .i64 f1, .string f2, .int .i64 f3, .int .i64 sn, .int .i64 sd, .int .i64 on, .int .i64 od, .string f8], .agg #[.int .i64 vn, .int .i64 vd]] w fun e w' => e = .returned (.tuple #[.int .i64 (rawR sn sd on od vn vd).1, .int .i64 (rawR sn sd on od vn vd).2]) ∧ Below w.heap.size w w' := by
  have z1 : (sn == 0) = false := by simp [hz]
  have z2 : (on == -9223372036854775808) = false := by simp [ho]
  have z3 : (sn == -9223372036854775808) = false := by simp [hs]
  have hf := raw_facts ⟨⟨h, h2⟩, h3⟩ hz ho hs
  have hov : over sn sd = ((-sd), (-sn)) := by unfold over; rw [if_neg (by omega)]
  have hoR := (over_Rt h hz).1
  rw [hov] at hf hoR
  have p0 := h.1
  have ino : I64 (-on) := by unfold I64 at *; omega
  have ib1 : I64 ((-sd)) := by unfold I64 at *; omega
  have ib2 : I64 ((-sn)) := by unfold I64 at *; omega
  have hno := Rt_neg h2
  have hA := fun w => refadd_calls hvn hvd ino hod h3 hno w
  obtain ⟨X, hX⟩ : ∃ X, addR vn vd (-on) od = X := ⟨_, rfl⟩
  rw [hX] at hf
  simp only [hX, ansB] at hA
  clear hX
  obtain ⟨⟨r1, r2⟩, hrr⟩ : ∃ r, rawR sn sd on od vn vd = r := ⟨_, rfl⟩
  rw [hrr] at hf ⊢
  clear hrr hov
  have eno : IntKind.i64.wrap (-on) = -on := by rw [i64_w]; exact wrap_in ino
  have z4 : decide (sn < 0) = true := by simp; omega
  have en1 : IntKind.i64.wrap (-sd) = -sd := by rw [i64_w]; exact wrap_in ib1
  have en2 : IntKind.i64.wrap (-sn) = -sn := by rw [i64_w]; exact wrap_in ib2
  have hR1 := fun w => ref_right_calls hsn hsd w
  simp only [decide_eq_true h] at hR1
  have R1 := Lib.hid hR1
  clear hR1
  have hR2 := fun w => ref_right_calls hon hod w
  simp only [decide_eq_true h2] at hR2
  have R2 := Lib.hid hR2
  clear hR2
  have hR3 := fun w => ref_right_calls hvn hvd w
  simp only [decide_eq_true h3] at hR3
  have R3 := Lib.hid hR3
  clear hR3
  have FF := Lib.hid hf
  have HA := Lib.hid hA
  have OR := Lib.hid hoR
  clear hf hA hoR h h2 h3 hno
  have hB := b2_start w (.cells #[.string f0, .int .i64 f1, .string f2, .int .i64 f3, .int .i64 sn, .int .i64 sd, .int .i64 on, .int .i64 od, .string f8] 25) (.cells #[.int .i64 vn, .int .i64 vd] 23)
  have a0 : ((w.alloc (.cells #[.string f0, .int .i64 f1, .string f2, .int .i64 f3, .int .i64 sn, .int .i64 sd, .int .i64 on, .int .i64 od, .string f8] 25)).alloc (.cells #[.int .i64 vn, .int .i64 vd] 23)).cell? ⟨w.heap.size, 0, none⟩ = some (.string f0) := blk_cell hB.b1 0
  have a1 : ((w.alloc (.cells #[.string f0, .int .i64 f1, .string f2, .int .i64 f3, .int .i64 sn, .int .i64 sd, .int .i64 on, .int .i64 od, .string f8] 25)).alloc (.cells #[.int .i64 vn, .int .i64 vd] 23)).cell? ⟨w.heap.size, 1, none⟩ = some (.int .i64 f1) := blk_cell hB.b1 1
  have a2 : ((w.alloc (.cells #[.string f0, .int .i64 f1, .string f2, .int .i64 f3, .int .i64 sn, .int .i64 sd, .int .i64 on, .int .i64 od, .string f8] 25)).alloc (.cells #[.int .i64 vn, .int .i64 vd] 23)).cell? ⟨w.heap.size, 2, none⟩ = some (.string f2) := blk_cell hB.b1 2
  have a3 : ((w.alloc (.cells #[.string f0, .int .i64 f1, .string f2, .int .i64 f3, .int .i64 sn, .int .i64 sd, .int .i64 on, .int .i64 od, .string f8] 25)).alloc (.cells #[.int .i64 vn, .int .i64 vd] 23)).cell? ⟨w.heap.size, 3, none⟩ = some (.int .i64 f3) := blk_cell hB.b1 3
  have a4 : ((w.alloc (.cells #[.string f0, .int .i64 f1, .string f2, .int .i64 f3, .int .i64 sn, .int .i64 sd, .int .i64 on, .int .i64 od, .string f8] 25)).alloc (.cells #[.int .i64 vn, .int .i64 vd] 23)).cell? ⟨w.heap.size, 4, none⟩ = some (.int .i64 sn) := blk_cell hB.b1 4
  have a5 : ((w.alloc (.cells #[.string f0, .int .i64 f1, .string f2, .int .i64 f3, .int .i64 sn, .int .i64 sd, .int .i64 on, .int .i64 od, .string f8] 25)).alloc (.cells #[.int .i64 vn, .int .i64 vd] 23)).cell? ⟨w.heap.size, 5, none⟩ = some (.int .i64 sd) := blk_cell hB.b1 5
  have a6 : ((w.alloc (.cells #[.string f0, .int .i64 f1, .string f2, .int .i64 f3, .int .i64 sn, .int .i64 sd, .int .i64 on, .int .i64 od, .string f8] 25)).alloc (.cells #[.int .i64 vn, .int .i64 vd] 23)).cell? ⟨w.heap.size, 6, none⟩ = some (.int .i64 on) := blk_cell hB.b1 6
  have a7 : ((w.alloc (.cells #[.string f0, .int .i64 f1, .string f2, .int .i64 f3, .int .i64 sn, .int .i64 sd, .int .i64 on, .int .i64 od, .string f8] 25)).alloc (.cells #[.int .i64 vn, .int .i64 vd] 23)).cell? ⟨w.heap.size, 7, none⟩ = some (.int .i64 od) := blk_cell hB.b1 7
  have a8 : ((w.alloc (.cells #[.string f0, .int .i64 f1, .string f2, .int .i64 f3, .int .i64 sn, .int .i64 sd, .int .i64 on, .int .i64 od, .string f8] 25)).alloc (.cells #[.int .i64 vn, .int .i64 vd] 23)).cell? ⟨w.heap.size, 8, none⟩ = some (.string f8) := blk_cell hB.b1 8
  have b0 : ((w.alloc (.cells #[.string f0, .int .i64 f1, .string f2, .int .i64 f3, .int .i64 sn, .int .i64 sd, .int .i64 on, .int .i64 od, .string f8] 25)).alloc (.cells #[.int .i64 vn, .int .i64 vd] 23)).cell? ⟨w.heap.size + 1, 0, none⟩ = some (.int .i64 vn) := blk_cell hB.b2 0
  have b1 : ((w.alloc (.cells #[.string f0, .int .i64 f1, .string f2, .int .i64 f3, .int .i64 sn, .int .i64 sd, .int .i64 on, .int .i64 od, .string f8] 25)).alloc (.cells #[.int .i64 vn, .int .i64 vd] 23)).cell? ⟨w.heap.size + 1, 1, none⟩ = some (.int .i64 vd) := blk_cell hB.b2 1
  go_enter Try.func26, Try.ntmps26
  go_wp2_with fail
  refine (R1.out _).mono ?_
  rintro e w1 ⟨rfl, hb_⟩
  replace hB := hB.step hb_
  clear hb_ a0 a1 a2 a3 a4 a5 a6 a7 a8 b0 b1
  have a0 : w1.cell? ⟨w.heap.size, 0, none⟩ = some (.string f0) := blk_cell hB.b1 0
  have a1 : w1.cell? ⟨w.heap.size, 1, none⟩ = some (.int .i64 f1) := blk_cell hB.b1 1
  have a2 : w1.cell? ⟨w.heap.size, 2, none⟩ = some (.string f2) := blk_cell hB.b1 2
  have a3 : w1.cell? ⟨w.heap.size, 3, none⟩ = some (.int .i64 f3) := blk_cell hB.b1 3
  have a4 : w1.cell? ⟨w.heap.size, 4, none⟩ = some (.int .i64 sn) := blk_cell hB.b1 4
  have a5 : w1.cell? ⟨w.heap.size, 5, none⟩ = some (.int .i64 sd) := blk_cell hB.b1 5
  have a6 : w1.cell? ⟨w.heap.size, 6, none⟩ = some (.int .i64 on) := blk_cell hB.b1 6
  have a7 : w1.cell? ⟨w.heap.size, 7, none⟩ = some (.int .i64 od) := blk_cell hB.b1 7
  have a8 : w1.cell? ⟨w.heap.size, 8, none⟩ = some (.string f8) := blk_cell hB.b1 8
  have b0 : w1.cell? ⟨w.heap.size + 1, 0, none⟩ = some (.int .i64 vn) := blk_cell hB.b2 0
  have b1 : w1.cell? ⟨w.heap.size + 1, 1, none⟩ = some (.int .i64 vd) := blk_cell hB.b2 1
  go_wp2_with fail
  refine (R2.out _).mono ?_
  rintro e w2 ⟨rfl, hb_⟩
  replace hB := hB.step hb_
  clear hb_ a0 a1 a2 a3 a4 a5 a6 a7 a8 b0 b1
  have a0 : w2.cell? ⟨w.heap.size, 0, none⟩ = some (.string f0) := blk_cell hB.b1 0
  have a1 : w2.cell? ⟨w.heap.size, 1, none⟩ = some (.int .i64 f1) := blk_cell hB.b1 1
  have a2 : w2.cell? ⟨w.heap.size, 2, none⟩ = some (.string f2) := blk_cell hB.b1 2
  have a3 : w2.cell? ⟨w.heap.size, 3, none⟩ = some (.int .i64 f3) := blk_cell hB.b1 3
  have a4 : w2.cell? ⟨w.heap.size, 4, none⟩ = some (.int .i64 sn) := blk_cell hB.b1 4
  have a5 : w2.cell? ⟨w.heap.size, 5, none⟩ = some (.int .i64 sd) := blk_cell hB.b1 5
  have a6 : w2.cell? ⟨w.heap.size, 6, none⟩ = some (.int .i64 on) := blk_cell hB.b1 6
  have a7 : w2.cell? ⟨w.heap.size, 7, none⟩ = some (.int .i64 od) := blk_cell hB.b1 7
  have a8 : w2.cell? ⟨w.heap.size, 8, none⟩ = some (.string f8) := blk_cell hB.b1 8
  have b0 : w2.cell? ⟨w.heap.size + 1, 0, none⟩ = some (.int .i64 vn) := blk_cell hB.b2 0
  have b1 : w2.cell? ⟨w.heap.size + 1, 1, none⟩ = some (.int .i64 vd) := blk_cell hB.b2 1
  go_wp2_with fail
  refine (R3.out _).mono ?_
  rintro e w3 ⟨rfl, hb_⟩
  replace hB := hB.step hb_
  clear hb_ a0 a1 a2 a3 a4 a5 a6 a7 a8 b0 b1
  have a0 : w3.cell? ⟨w.heap.size, 0, none⟩ = some (.string f0) := blk_cell hB.b1 0
  have a1 : w3.cell? ⟨w.heap.size, 1, none⟩ = some (.int .i64 f1) := blk_cell hB.b1 1
  have a2 : w3.cell? ⟨w.heap.size, 2, none⟩ = some (.string f2) := blk_cell hB.b1 2
  have a3 : w3.cell? ⟨w.heap.size, 3, none⟩ = some (.int .i64 f3) := blk_cell hB.b1 3
  have a4 : w3.cell? ⟨w.heap.size, 4, none⟩ = some (.int .i64 sn) := blk_cell hB.b1 4
  have a5 : w3.cell? ⟨w.heap.size, 5, none⟩ = some (.int .i64 sd) := blk_cell hB.b1 5
  have a6 : w3.cell? ⟨w.heap.size, 6, none⟩ = some (.int .i64 on) := blk_cell hB.b1 6
  have a7 : w3.cell? ⟨w.heap.size, 7, none⟩ = some (.int .i64 od) := blk_cell hB.b1 7
  have a8 : w3.cell? ⟨w.heap.size, 8, none⟩ = some (.string f8) := blk_cell hB.b1 8
  have b0 : w3.cell? ⟨w.heap.size + 1, 0, none⟩ = some (.int .i64 vn) := blk_cell hB.b2 0
  have b1 : w3.cell? ⟨w.heap.size + 1, 1, none⟩ = some (.int .i64 vd) := blk_cell hB.b2 1
  have hw3 := hB.size
  have kx := blk_new w3 (.cells #[.int .i64 ((-sd)), .int .i64 ((-sn))] 23)
  have hB4 := hB.step (below_alloc (Below.refl _ _) (.cells #[.int .i64 (-sd), .int .i64 (-sn)] 23))
  have hBz := hB
  clear hB
  have hB := hB4
  clear hB4
  have hBa := b2_start w (.cells #[.string f0, .int .i64 f1, .string f2, .int .i64 f3, .int .i64 sn, .int .i64 sd, .int .i64 on, .int .i64 od, .string f8] 25) (.cells #[.int .i64 vn, .int .i64 vd] 23)
  clear hBa
  have kp := blk_new w3 (.cells #[.int .i64 sd, .int .i64 sn] 23)
  have hBp := hBz.step (below_alloc (Below.refl _ _) (.cells #[.int .i64 sd, .int .i64 sn] 23))
  have kk0 : (w3.alloc (.cells #[.int .i64 sd, .int .i64 sn] 23)).cell? ⟨w.heap.size, 0, none⟩ = some (.string f0) := blk_cell hBp.b1 0
  have kk1 : (w3.alloc (.cells #[.int .i64 sd, .int .i64 sn] 23)).cell? ⟨w.heap.size, 1, none⟩ = some (.int .i64 f1) := blk_cell hBp.b1 1
  have kk2 : (w3.alloc (.cells #[.int .i64 sd, .int .i64 sn] 23)).cell? ⟨w.heap.size, 2, none⟩ = some (.string f2) := blk_cell hBp.b1 2
  have kk3 : (w3.alloc (.cells #[.int .i64 sd, .int .i64 sn] 23)).cell? ⟨w.heap.size, 3, none⟩ = some (.int .i64 f3) := blk_cell hBp.b1 3
  have kk4 : (w3.alloc (.cells #[.int .i64 sd, .int .i64 sn] 23)).cell? ⟨w.heap.size, 4, none⟩ = some (.int .i64 sn) := blk_cell hBp.b1 4
  have kk5 : (w3.alloc (.cells #[.int .i64 sd, .int .i64 sn] 23)).cell? ⟨w.heap.size, 5, none⟩ = some (.int .i64 sd) := blk_cell hBp.b1 5
  have kk6 : (w3.alloc (.cells #[.int .i64 sd, .int .i64 sn] 23)).cell? ⟨w.heap.size, 6, none⟩ = some (.int .i64 on) := blk_cell hBp.b1 6
  have kk7 : (w3.alloc (.cells #[.int .i64 sd, .int .i64 sn] 23)).cell? ⟨w.heap.size, 7, none⟩ = some (.int .i64 od) := blk_cell hBp.b1 7
  have kk8 : (w3.alloc (.cells #[.int .i64 sd, .int .i64 sn] 23)).cell? ⟨w.heap.size, 8, none⟩ = some (.string f8) := blk_cell hBp.b1 8
  have x0 : (w3.alloc (.cells #[.int .i64 sd, .int .i64 sn] 23)).cell? ⟨w.heap.size + 1, 0, none⟩ = some (.int .i64 vn) := blk_cell hBp.b2 0
  have x1 : (w3.alloc (.cells #[.int .i64 sd, .int .i64 sn] 23)).cell? ⟨w.heap.size + 1, 1, none⟩ = some (.int .i64 vd) := blk_cell hBp.b2 1
  have y0 : (w3.alloc (.cells #[.int .i64 sd, .int .i64 sn] 23)).cell? ⟨w3.heap.size, 0, none⟩ = some (.int .i64 sd) := blk_cell kp 0
  have yf0 : (w3.alloc (.cells #[.int .i64 sd, .int .i64 sn] 23)).frozen? ⟨w3.heap.size, 0, none⟩ = false := blk_frozen kp 0
  have y1 : (w3.alloc (.cells #[.int .i64 sd, .int .i64 sn] 23)).cell? ⟨w3.heap.size, 1, none⟩ = some (.int .i64 sn) := blk_cell kp 1
  have yf1 : (w3.alloc (.cells #[.int .i64 sd, .int .i64 sn] 23)).frozen? ⟨w3.heap.size, 1, none⟩ = false := blk_frozen kp 1
  have u0 : (w3.alloc (.cells #[.int .i64 ((-sd)), .int .i64 ((-sn))] 23)).cell? ⟨w.heap.size, 0, none⟩ = some (.string f0) := blk_cell hB.b1 0
  have u1 : (w3.alloc (.cells #[.int .i64 ((-sd)), .int .i64 ((-sn))] 23)).cell? ⟨w.heap.size, 1, none⟩ = some (.int .i64 f1) := blk_cell hB.b1 1
  have u2 : (w3.alloc (.cells #[.int .i64 ((-sd)), .int .i64 ((-sn))] 23)).cell? ⟨w.heap.size, 2, none⟩ = some (.string f2) := blk_cell hB.b1 2
  have u3 : (w3.alloc (.cells #[.int .i64 ((-sd)), .int .i64 ((-sn))] 23)).cell? ⟨w.heap.size, 3, none⟩ = some (.int .i64 f3) := blk_cell hB.b1 3
  have u4 : (w3.alloc (.cells #[.int .i64 ((-sd)), .int .i64 ((-sn))] 23)).cell? ⟨w.heap.size, 4, none⟩ = some (.int .i64 sn) := blk_cell hB.b1 4
  have u5 : (w3.alloc (.cells #[.int .i64 ((-sd)), .int .i64 ((-sn))] 23)).cell? ⟨w.heap.size, 5, none⟩ = some (.int .i64 sd) := blk_cell hB.b1 5
  have u6 : (w3.alloc (.cells #[.int .i64 ((-sd)), .int .i64 ((-sn))] 23)).cell? ⟨w.heap.size, 6, none⟩ = some (.int .i64 on) := blk_cell hB.b1 6
  have u7 : (w3.alloc (.cells #[.int .i64 ((-sd)), .int .i64 ((-sn))] 23)).cell? ⟨w.heap.size, 7, none⟩ = some (.int .i64 od) := blk_cell hB.b1 7
  have u8 : (w3.alloc (.cells #[.int .i64 ((-sd)), .int .i64 ((-sn))] 23)).cell? ⟨w.heap.size, 8, none⟩ = some (.string f8) := blk_cell hB.b1 8
  have v0 : (w3.alloc (.cells #[.int .i64 ((-sd)), .int .i64 ((-sn))] 23)).cell? ⟨w.heap.size + 1, 0, none⟩ = some (.int .i64 vn) := blk_cell hB.b2 0
  have v1 : (w3.alloc (.cells #[.int .i64 ((-sd)), .int .i64 ((-sn))] 23)).cell? ⟨w.heap.size + 1, 1, none⟩ = some (.int .i64 vd) := blk_cell hB.b2 1
  go_wp2_with fail
  cases X with
  | none =>
    have hres := FF.out.1 rfl
    cases hres
    refine (HA.out _).mono ?_
    rintro e w5 ⟨rfl, hb5⟩
    replace hB := hB.step hb5
    have hB9 := hB.step (below_alloc (Below.refl _ _) (.cells #[.int .i64 0, .int .i64 0] 23))
    simp only [toldB]
    go_wp2_with fail
    go_ret2
    exact ⟨rfl, hB9.be⟩
  | some p =>
    obtain ⟨p1, p2⟩ := p
    obtain ⟨hp, ip1, ip2, hn, hq⟩ := FF.out.2 (p1, p2) rfl
    have hM := fun w => refmul_calls ip1 ip2 ib1 ib2 hp OR.out w
    obtain ⟨Y, hY⟩ : ∃ Y, mulR p1 p2 ((-sd)) ((-sn)) = Y := ⟨_, rfl⟩
    have hn' : Y = none → (r1, r2) = (0, 2) := fun e => hn (hY.trans e)
    have hq' : ∀ q, Y = some q → (r1, r2) = if q.2 = 1 then (q.1, 0) else (0, 6) := fun q e => hq q (hY.trans e)
    simp only [hY, ansB] at hM
    have HM := Lib.hid hM
    have HN := Lib.hid hn'
    have HQ := Lib.hid hq'
    clear hY hM hn hq hn' hq' hp
    refine (HA.out _).mono ?_
    rintro e w5 ⟨rfl, hb5⟩
    have kx5 := blk_below kx hb5
    replace hB := hB.step hb5
    clear hb5 FF HA OR a0 a1 a2 a3 a4 a5 a6 a7 a8 b0 b1 kk0 kk1 kk2 kk3 kk4 kk5 kk6 kk7 kk8 x0 x1 y0 yf0 y1 yf1 u0 u1 u2 u3 u4 u5 u6 u7 u8 v0 v1
    simp only [toldB]
    have h5 := hB.size
    have hlt5 := blk_lt kx5
    have kz := blk_new w5 (.cells #[.int .i64 p1, .int .i64 p2] 23)
    have kx6 := blk_below kx5 (below_alloc (Below.refl _ _) (.cells #[.int .i64 p1, .int .i64 p2] 23))
    replace hB := hB.step (below_alloc (Below.refl _ _) (.cells #[.int .i64 p1, .int .i64 p2] 23))
    have c0 : (w5.alloc (.cells #[.int .i64 p1, .int .i64 p2] 23)).cell? ⟨w5.heap.size, 0, none⟩ = some (.int .i64 p1) := blk_cell kz 0
    have c1 : (w5.alloc (.cells #[.int .i64 p1, .int .i64 p2] 23)).cell? ⟨w5.heap.size, 1, none⟩ = some (.int .i64 p2) := blk_cell kz 1
    have d0 : (w5.alloc (.cells #[.int .i64 p1, .int .i64 p2] 23)).cell? ⟨w3.heap.size, 0, none⟩ = some (.int .i64 (-sd)) := blk_cell kx6 0
    have d1 : (w5.alloc (.cells #[.int .i64 p1, .int .i64 p2] 23)).cell? ⟨w3.heap.size, 1, none⟩ = some (.int .i64 (-sn)) := blk_cell kx6 1
    go_wp2_with fail
    cases Y with
    | none =>
      have hres := HN.out rfl
      cases hres
      refine (HM.out _).mono ?_
      rintro e w6 ⟨rfl, hb6⟩
      have kz6 := blk_below kz hb6
      replace hB := hB.step hb6
      simp only [toldB]
      clear hb6 c0 c1 d0 d1
      have c0 : w6.cell? ⟨w5.heap.size, 0, none⟩ = some (.int .i64 p1) := blk_cell kz6 0
      have cf0 : w6.frozen? ⟨w5.heap.size, 0, none⟩ = false := blk_frozen kz6 0
      have c1 : w6.cell? ⟨w5.heap.size, 1, none⟩ = some (.int .i64 p2) := blk_cell kz6 1
      have cf1 : w6.frozen? ⟨w5.heap.size, 1, none⟩ = false := blk_frozen kz6 1
      have hBs := (hB.be.setCell (p := ⟨w5.heap.size, 0, none⟩) (by show w.heap.size ≤ w5.heap.size; omega) (.int .i64 0)).setCell (p := ⟨w5.heap.size, 1, none⟩) (by show w.heap.size ≤ w5.heap.size; omega) (.int .i64 0)
      go_wp2_with fail
      go_ret2
      exact ⟨rfl, hBs⟩
    | some q =>
      obtain ⟨q1, q2⟩ := q
      have hres := HQ.out (q1, q2) rfl
      refine (HM.out _).mono ?_
      rintro e w6 ⟨rfl, hb6⟩
      have kz6 := blk_below kz hb6
      replace hB := hB.step hb6
      simp only [toldB]
      clear hb6 c0 c1 d0 d1
      have c0 : w6.cell? ⟨w5.heap.size, 0, none⟩ = some (.int .i64 p1) := blk_cell kz6 0
      have cf0 : w6.frozen? ⟨w5.heap.size, 0, none⟩ = false := blk_frozen kz6 0
      have c1 : w6.cell? ⟨w5.heap.size, 1, none⟩ = some (.int .i64 p2) := blk_cell kz6 1
      have cf1 : w6.frozen? ⟨w5.heap.size, 1, none⟩ = false := blk_frozen kz6 1
      have hBs := (hB.be.setCell (p := ⟨w5.heap.size, 0, none⟩) (by show w.heap.size ≤ w5.heap.size; omega) (.int .i64 q1)).setCell (p := ⟨w5.heap.size, 1, none⟩) (by show w.heap.size ≤ w5.heap.size; omega) (.int .i64 q2)
      by_cases h1 : q2 = 1
      · rw [if_pos h1] at hres
        cases hres
        have t1 : (q2 == 1) = true := by simp [h1]
        clear h1
        go_wp2_with fail
        go_ret2
        exact ⟨rfl, hBs⟩
      · rw [if_neg h1] at hres
        cases hres
        have t1 : (q2 == 1) = false := by simp [h1]
        go_wp2_with fail
        go_ret2
        exact ⟨rfl, hBs⟩

end Go.Proofs.Ytcldlfhnmkogeaa.RefRaw

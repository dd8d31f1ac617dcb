import Derived.Test.YtcldlfhnmkogeaaScaleValue
/- The raw number of a value (scale.Raw), walked. -/
set_option linter.unusedVariables false
set_option linter.unusedSimpArgs false
namespace Go.Proofs.Ytcldlfhnmkogeaa.Scale
open Go.RowKit Go.Proofs.YtcldlfhnmkogeaaW.PrintWords Go.Proofs.YtcldlfhnmkogeaaW.PrintLast Go.Proofs.Ytcldlfhnmkogeaa.Nats Go.Proofs.Ytcldlfhnmkogeaa.HeapKit Go.Proofs.Ytcldlfhnmkogeaa.PAdd Go.Proofs.Ytcldlfhnmkogeaa.RatPlain

/-- 1 over a fraction. -/
def over (sn sd : Int) : Int × Int := if sn > 0 then (sd, sn) else (-sd, -sn)

set_option maxRecDepth 100000 in
set_option maxHeartbeats 4000000 in
theorem over_up {sn sd : Int} (h0 : 0 < sn) (w : World) :
    Calls Try.prog 57 #[.agg #[.int .i64 sn, .int .i64 sd]] w fun e w' => e = .returned (.tuple #[.agg #[.int .i64 sd, .int .i64 sn], .bool true]) ∧ Below w.heap.size w w' := by
  have t1 : decide (sn > 0) = true := by simp; omega
  have hR := b2_start w (.cells #[.int .i64 sn, .int .i64 sd] 29) (.cells #[.int .i64 sd, .int .i64 sn] 29)
  go_enter Try.func57, Try.ntmps57
  go_wp2_with fail
  obtain ⟨w_, hw_⟩ : ∃ w_, w_ = ((w.alloc (.cells #[.int .i64 sn, .int .i64 sd] 29)).alloc (.cells #[.int .i64 sd, .int .i64 sn] 29)) := ⟨_, rfl⟩
  rw [← hw_] at hR
  try rw [← hw_]
  clear hw_
  have s0 : w_.cell? ⟨w.heap.size + 1, 0, none⟩ = some (.int .i64 sd) := blk_cell hR.b2 0
  have s1 : w_.cell? ⟨w.heap.size + 1, 1, none⟩ = some (.int .i64 sn) := blk_cell hR.b2 1
  refine bodyPost_ret (by simp [results, Try.results57, go_sem, s0, s1]; try rfl) rfl ?_
  exact ⟨rfl, hR.be⟩

set_option maxRecDepth 100000 in
set_option maxHeartbeats 4000000 in
theorem over_down {sn sd : Int} (hs : I64 sn) (hd : I64 sd) (h0 : sn ≤ 0) (h1 : 0 < sd) (x2 : Int) (ox : Bool) (hx : RatPlain.watched (-sn) = (x2, ox)) (w : World) :
    Calls Try.prog 57 #[.agg #[.int .i64 sn, .int .i64 sd]] w fun e w' => e = .returned (.tuple #[.agg #[.int .i64 (-sd), .int .i64 x2], .bool ox]) ∧ Below w.heap.size w w' := by
  have t1 : decide (sn > 0) = false := by simp; omega
  have hn := neg_eq hs
  rw [hx] at hn
  have i2 : I64 (-sd) := by unfold I64 at *; omega
  have e2 : IntKind.i64.wrap (-sd) = -sd := by rw [i64_w]; exact wrap_in i2
  go_enter Try.func57, Try.ntmps57
  go_wp2_with fail
  refine (whole_Neg.calls sn x2 ox _ hn).mono ?_
  rintro e w1 ⟨rfl, hb1⟩
  have hB := (b2_start w (.cells #[.int .i64 sn, .int .i64 sd] 29) (.cells #[.int .i64 0, .int .i64 0] 29)).step hb1.below
  clear hb1
  have a0 : w1.cell? ⟨w.heap.size, 0, none⟩ = some (.int .i64 sn) := blk_cell hB.b1 0
  have a1 : w1.cell? ⟨w.heap.size, 1, none⟩ = some (.int .i64 sd) := blk_cell hB.b1 1
  have hx_ := hB.b2
  have d_0 : w1.cell? ⟨w.heap.size + 1, 0, none⟩ = some (.int .i64 0) := blk_cell hx_ 0
  have df_0 : w1.frozen? ⟨w.heap.size + 1, 0, none⟩ = false := blk_frozen hx_ 0
  have d_1 : w1.cell? ⟨w.heap.size + 1, 1, none⟩ = some (.int .i64 0) := blk_cell hx_ 1
  have df_1 : w1.frozen? ⟨w.heap.size + 1, 1, none⟩ = false := blk_frozen hx_ 1
  go_wp2_with fail
  have k_ := (blk_set (blk_set hx_ 0 (.int .i64 (-sd))) 1 (.int .i64 x2))
  have hB_ := (Below.setCell (Below.setCell hB.be (p := ⟨w.heap.size + 1, 0, none⟩) ((by show w.heap.size ≤ w.heap.size + 1; omega)) (.int .i64 (-sd))) (p := ⟨w.heap.size + 1, 1, none⟩) ((by show w.heap.size ≤ w.heap.size + 1; omega)) (.int .i64 x2))
  obtain ⟨w_, hw_⟩ : ∃ w_, w_ = (World.setCell (World.setCell w1 ⟨w.heap.size + 1, 0, none⟩ (.int .i64 (-sd))) ⟨w.heap.size + 1, 1, none⟩ (.int .i64 x2)) := ⟨_, rfl⟩
  rw [← hw_] at k_ hB_
  try rw [← hw_]
  clear hw_
  have s_0 : w_.cell? ⟨w.heap.size + 1, 0, none⟩ = some (.int .i64 (-sd)) := blk_cell k_ 0
  have s_1 : w_.cell? ⟨w.heap.size + 1, 1, none⟩ = some (.int .i64 x2) := blk_cell k_ 1
  refine bodyPost_ret (by simp [results, Try.results57, go_sem, s_0, s_1]; try rfl) rfl ?_
  exact ⟨rfl, hB_⟩

/-- What over answers. -/
theorem over_calls {sn sd : Int} (hs : I64 sn) (hd : I64 sd) (h1 : 0 < sd) (w : World) :
    Calls Try.prog 57 #[.agg #[.int .i64 sn, .int .i64 sd]] w fun e w' => e = .returned (if sn = -9223372036854775808 then .tuple #[.agg #[.int .i64 (-sd), .int .i64 0], .bool false] else .tuple #[.agg #[.int .i64 (over sn sd).1, .int .i64 (over sn sd).2], .bool true]) ∧ Below w.heap.size w w' := by
  unfold over
  by_cases h0 : 0 < sn
  · rw [if_neg (by omega), if_pos h0]
    exact over_up h0 w
  · rw [if_neg h0]
    by_cases hm : sn = -9223372036854775808
    · rw [if_pos hm]
      exact over_down hs hd (by omega) h1 0 false (watched_no (by rw [hm]; decide)) w
    · rw [if_neg hm]
      exact over_down hs hd (by omega) h1 (-sn) true (watched_yes (x := -sn) (by unfold I64 at *; omega)) w

set_option maxRecDepth 100000 in
set_option maxHeartbeats 4000000 in
theorem raw_wrong1 (f0 : ByteArray) (f1 : Int) (f2 : ByteArray) (f3 sn sd on od : Int) (f8 : ByteArray) (vn vd : Int) (hsn : I64 sn) (hsd : I64 sd) (hon : I64 on) (hod : I64 od) (hvn : I64 vn) (hvd : I64 vd) (hr : ¬ (Rt sn sd ∧ Rt on od)) (w : World) :
    Calls Try.prog 24 #[.agg #[.string f0, .int .i64 f1, .string f2, .int .i64 f3, .int .i64 sn, .int .i64 sd, .int .i64 on, .int .i64 od, .string f8], .agg #[.int .i64 vn, .int .i64 vd]] w fun e w' => e = .returned (.tuple #[.int .i64 0, .int .i64 1]) ∧ Below w.heap.size w w' := by
  have hc := fun w => fright_calls f0 f1 f2 f3 sn sd on od f8 hsn hsd hon hod w
  simp only [decide_eq_false hr] at hc
  have HC := Lib.hid hc
  clear hc
  go_enter Try.func24, Try.ntmps24
  go_wp2_with fail
  refine (HC.out _).mono ?_
  rintro e w1 ⟨rfl, hb1⟩
  have hB := (b2_start w (.cells #[.string f0, .int .i64 f1, .string f2, .int .i64 f3, .int .i64 sn, .int .i64 sd, .int .i64 on, .int .i64 od, .string f8] 34) (.cells #[.int .i64 vn, .int .i64 vd] 29)).step hb1
  clear hb1
  go_wp2_with fail
  go_ret2
  exact ⟨rfl, hB.be⟩

set_option maxRecDepth 100000 in
set_option maxHeartbeats 4000000 in
theorem raw_wrong2 (f0 : ByteArray) (f1 : Int) (f2 : ByteArray) (f3 sn sd on od : Int) (f8 : ByteArray) (vn vd : Int) (hsn : I64 sn) (hsd : I64 sd) (hon : I64 on) (hod : I64 od) (hvn : I64 vn) (hvd : I64 vd) (hr : Rt sn sd ∧ Rt on od) (hv0 : ¬ Rt vn vd) (w : World) :
    Calls Try.prog 24 #[.agg #[.string f0, .int .i64 f1, .string f2, .int .i64 f3, .int .i64 sn, .int .i64 sd, .int .i64 on, .int .i64 od, .string f8], .agg #[.int .i64 vn, .int .i64 vd]] w fun e w' => e = .returned (.tuple #[.int .i64 0, .int .i64 1]) ∧ Below w.heap.size w w' := by
  have hc := fun w => fright_calls f0 f1 f2 f3 sn sd on od f8 hsn hsd hon hod w
  simp only [decide_eq_true hr] at hc
  have HC := Lib.hid hc
  clear hc
  have hv := fun w => right_calls hvn hvd w
  simp only [decide_eq_false hv0] at hv
  have HV := Lib.hid hv
  clear hv
  go_enter Try.func24, Try.ntmps24
  go_wp2_with fail
  refine (HC.out _).mono ?_
  rintro e w1 ⟨rfl, hb1⟩
  have hB := (b2_start w (.cells #[.string f0, .int .i64 f1, .string f2, .int .i64 f3, .int .i64 sn, .int .i64 sd, .int .i64 on, .int .i64 od, .string f8] 34) (.cells #[.int .i64 vn, .int .i64 vd] 29)).step hb1
  clear hb1
  have a0 : w1.cell? ⟨w.heap.size, 0, none⟩ = some (.string f0) := blk_cell hB.b1 0
  have a1 : w1.cell? ⟨w.heap.size, 1, none⟩ = some (.int .i64 f1) := blk_cell hB.b1 1
  have a2 : w1.cell? ⟨w.heap.size, 2, none⟩ = some (.string f2) := blk_cell hB.b1 2
  have a3 : w1.cell? ⟨w.heap.size, 3, none⟩ = some (.int .i64 f3) := blk_cell hB.b1 3
  have a4 : w1.cell? ⟨w.heap.size, 4, none⟩ = some (.int .i64 sn) := blk_cell hB.b1 4
  have a5 : w1.cell? ⟨w.heap.size, 5, none⟩ = some (.int .i64 sd) := blk_cell hB.b1 5
  have a6 : w1.cell? ⟨w.heap.size, 6, none⟩ = some (.int .i64 on) := blk_cell hB.b1 6
  have a7 : w1.cell? ⟨w.heap.size, 7, none⟩ = some (.int .i64 od) := blk_cell hB.b1 7
  have a8 : w1.cell? ⟨w.heap.size, 8, none⟩ = some (.string f8) := blk_cell hB.b1 8
  have b0 : w1.cell? ⟨w.heap.size + 1, 0, none⟩ = some (.int .i64 vn) := blk_cell hB.b2 0
  have b1 : w1.cell? ⟨w.heap.size + 1, 1, none⟩ = some (.int .i64 vd) := blk_cell hB.b2 1
  go_wp2_with fail
  refine (HV.out _).mono ?_
  rintro e w2 ⟨rfl, hb2⟩
  replace hB := hB.step hb2
  clear hb2
  clear a0 a1 a2 a3 a4 a5 a6 a7 a8 b0 b1
  have a0 : w2.cell? ⟨w.heap.size, 0, none⟩ = some (.string f0) := blk_cell hB.b1 0
  have a1 : w2.cell? ⟨w.heap.size, 1, none⟩ = some (.int .i64 f1) := blk_cell hB.b1 1
  have a2 : w2.cell? ⟨w.heap.size, 2, none⟩ = some (.string f2) := blk_cell hB.b1 2
  have a3 : w2.cell? ⟨w.heap.size, 3, none⟩ = some (.int .i64 f3) := blk_cell hB.b1 3
  have a4 : w2.cell? ⟨w.heap.size, 4, none⟩ = some (.int .i64 sn) := blk_cell hB.b1 4
  have a5 : w2.cell? ⟨w.heap.size, 5, none⟩ = some (.int .i64 sd) := blk_cell hB.b1 5
  have a6 : w2.cell? ⟨w.heap.size, 6, none⟩ = some (.int .i64 on) := blk_cell hB.b1 6
  have a7 : w2.cell? ⟨w.heap.size, 7, none⟩ = some (.int .i64 od) := blk_cell hB.b1 7
  have a8 : w2.cell? ⟨w.heap.size, 8, none⟩ = some (.string f8) := blk_cell hB.b1 8
  have b0 : w2.cell? ⟨w.heap.size + 1, 0, none⟩ = some (.int .i64 vn) := blk_cell hB.b2 0
  have b1 : w2.cell? ⟨w.heap.size + 1, 1, none⟩ = some (.int .i64 vd) := blk_cell hB.b2 1
  go_wp2_with fail
  go_ret2
  exact ⟨rfl, hB.be⟩

set_option maxRecDepth 100000 in
set_option maxHeartbeats 4000000 in
theorem raw_zero (f0 : ByteArray) (f1 : Int) (f2 : ByteArray) (f3 sn sd on od : Int) (f8 : ByteArray) (vn vd : Int) (hsn : I64 sn) (hsd : I64 sd) (hon : I64 on) (hod : I64 od) (hvn : I64 vn) (hvd : I64 vd) (hr : Rt sn sd ∧ Rt on od) (hv0 : Rt vn vd) (hz : sn = 0) (w : World) :
    Calls Try.prog 24 #[.agg #[.string f0, .int .i64 f1, .string f2, .int .i64 f3, .int .i64 sn, .int .i64 sd, .int .i64 on, .int .i64 od, .string f8], .agg #[.int .i64 vn, .int .i64 vd]] w fun e w' => e = .returned (.tuple #[.int .i64 0, .int .i64 3]) ∧ Below w.heap.size w w' := by
  have hc := fun w => fright_calls f0 f1 f2 f3 sn sd on od f8 hsn hsd hon hod w
  simp only [decide_eq_true hr] at hc
  have HC := Lib.hid hc
  clear hc
  have hv := fun w => right_calls hvn hvd w
  simp only [decide_eq_true hv0] at hv
  have HV := Lib.hid hv
  clear hv
  subst hz
  go_enter Try.func24, Try.ntmps24
  go_wp2_with fail
  refine (HC.out _).mono ?_
  rintro e w1 ⟨rfl, hb1⟩
  have hB := (b2_start w (.cells #[.string f0, .int .i64 f1, .string f2, .int .i64 f3, .int .i64 0, .int .i64 sd, .int .i64 on, .int .i64 od, .string f8] 34) (.cells #[.int .i64 vn, .int .i64 vd] 29)).step hb1
  clear hb1
  have a0 : w1.cell? ⟨w.heap.size, 0, none⟩ = some (.string f0) := blk_cell hB.b1 0
  have a1 : w1.cell? ⟨w.heap.size, 1, none⟩ = some (.int .i64 f1) := blk_cell hB.b1 1
  have a2 : w1.cell? ⟨w.heap.size, 2, none⟩ = some (.string f2) := blk_cell hB.b1 2
  have a3 : w1.cell? ⟨w.heap.size, 3, none⟩ = some (.int .i64 f3) := blk_cell hB.b1 3
  have a4 : w1.cell? ⟨w.heap.size, 4, none⟩ = some (.int .i64 0) := blk_cell hB.b1 4
  have a5 : w1.cell? ⟨w.heap.size, 5, none⟩ = some (.int .i64 sd) := blk_cell hB.b1 5
  have a6 : w1.cell? ⟨w.heap.size, 6, none⟩ = some (.int .i64 on) := blk_cell hB.b1 6
  have a7 : w1.cell? ⟨w.heap.size, 7, none⟩ = some (.int .i64 od) := blk_cell hB.b1 7
  have a8 : w1.cell? ⟨w.heap.size, 8, none⟩ = some (.string f8) := blk_cell hB.b1 8
  have b0 : w1.cell? ⟨w.heap.size + 1, 0, none⟩ = some (.int .i64 vn) := blk_cell hB.b2 0
  have b1 : w1.cell? ⟨w.heap.size + 1, 1, none⟩ = some (.int .i64 vd) := blk_cell hB.b2 1
  go_wp2_with fail
  refine (HV.out _).mono ?_
  rintro e w2 ⟨rfl, hb2⟩
  replace hB := hB.step hb2
  clear hb2
  clear a0 a1 a2 a3 a4 a5 a6 a7 a8 b0 b1
  have a0 : w2.cell? ⟨w.heap.size, 0, none⟩ = some (.string f0) := blk_cell hB.b1 0
  have a1 : w2.cell? ⟨w.heap.size, 1, none⟩ = some (.int .i64 f1) := blk_cell hB.b1 1
  have a2 : w2.cell? ⟨w.heap.size, 2, none⟩ = some (.string f2) := blk_cell hB.b1 2
  have a3 : w2.cell? ⟨w.heap.size, 3, none⟩ = some (.int .i64 f3) := blk_cell hB.b1 3
  have a4 : w2.cell? ⟨w.heap.size, 4, none⟩ = some (.int .i64 0) := blk_cell hB.b1 4
  have a5 : w2.cell? ⟨w.heap.size, 5, none⟩ = some (.int .i64 sd) := blk_cell hB.b1 5
  have a6 : w2.cell? ⟨w.heap.size, 6, none⟩ = some (.int .i64 on) := blk_cell hB.b1 6
  have a7 : w2.cell? ⟨w.heap.size, 7, none⟩ = some (.int .i64 od) := blk_cell hB.b1 7
  have a8 : w2.cell? ⟨w.heap.size, 8, none⟩ = some (.string f8) := blk_cell hB.b1 8
  have b0 : w2.cell? ⟨w.heap.size + 1, 0, none⟩ = some (.int .i64 vn) := blk_cell hB.b2 0
  have b1 : w2.cell? ⟨w.heap.size + 1, 1, none⟩ = some (.int .i64 vd) := blk_cell hB.b2 1
  go_wp2_with fail
  go_ret2
  exact ⟨rfl, hB.be⟩

set_option maxRecDepth 100000 in
set_option maxHeartbeats 4000000 in
theorem raw_over (f0 : ByteArray) (f1 : Int) (f2 : ByteArray) (f3 sn sd on od : Int) (f8 : ByteArray) (vn vd : Int) (hsn : I64 sn) (hsd : I64 sd) (hon : I64 on) (hod : I64 od) (hvn : I64 vn) (hvd : I64 vd) (hr : Rt sn sd ∧ Rt on od) (hv0 : Rt vn vd) (hz : sn ≠ 0) (ho : on = -9223372036854775808 ∨ sn = -9223372036854775808) (w : World) :
    Calls Try.prog 24 #[.agg #[.string f0, .int .i64 f1, .string f2, .int .i64 f3, .int .i64 sn, .int .i64 sd, .int .i64 on, .int .i64 od, .string f8], .agg #[.int .i64 vn, .int .i64 vd]] w fun e w' => e = .returned (.tuple #[.int .i64 0, .int .i64 2]) ∧ Below w.heap.size w w' := by
  have hc := fun w => fright_calls f0 f1 f2 f3 sn sd on od f8 hsn hsd hon hod w
  simp only [decide_eq_true hr] at hc
  have HC := Lib.hid hc
  clear hc
  have hv := fun w => right_calls hvn hvd w
  simp only [decide_eq_true hv0] at hv
  have HV := Lib.hid hv
  clear hv
  have z1 : (sn == 0) = false := by simp [hz]
  have hn := neg_eq hon
  obtain ⟨nn, on1, hnn, fn, gn⟩ := watch (-on)
  rw [hnn] at hn
  have hov := fun w => over_calls hsn hsd hr.1.1 w
  obtain ⟨x1, x2, ox, hx, hox⟩ : ∃ x1 x2 ox, (∀ w, Calls Try.prog 57 #[.agg #[.int .i64 sn, .int .i64 sd]] w fun e w' => e = .returned (.tuple #[.agg #[.int .i64 x1, .int .i64 x2], .bool ox]) ∧ Below w.heap.size w w') ∧ (sn = -9223372036854775808 → ox = false) := by
    by_cases hm : sn = -9223372036854775808
    · simp only [if_pos hm] at hov
      exact ⟨_, _, _, hov, fun _ => rfl⟩
    · simp only [if_neg hm] at hov
      exact ⟨_, _, _, hov, fun h => absurd h hm⟩
  have hoo : on1 = false ∨ ox = false := by
    rcases ho with h | h
    · left
      cases on1 with
      | false => rfl
      | true => have := (fn rfl).1; unfold I64 at this; omega
    · right
      exact hox h
  have HX := Lib.hid hx
  clear hov hx hox hr hv0 ho fn gn hnn
  go_enter Try.func24, Try.ntmps24
  go_wp2_with fail
  refine (HC.out _).mono ?_
  rintro e w1 ⟨rfl, hb1⟩
  have hB := (b2_start w (.cells #[.string f0, .int .i64 f1, .string f2, .int .i64 f3, .int .i64 sn, .int .i64 sd, .int .i64 on, .int .i64 od, .string f8] 34) (.cells #[.int .i64 vn, .int .i64 vd] 29)).step hb1
  clear hb1
  have a0 : w1.cell? ⟨w.heap.size, 0, none⟩ = some (.string f0) := blk_cell hB.b1 0
  have a1 : w1.cell? ⟨w.heap.size, 1, none⟩ = some (.int .i64 f1) := blk_cell hB.b1 1
  have a2 : w1.cell? ⟨w.heap.size, 2, none⟩ = some (.string f2) := blk_cell hB.b1 2
  have a3 : w1.cell? ⟨w.heap.size, 3, none⟩ = some (.int .i64 f3) := blk_cell hB.b1 3
  have a4 : w1.cell? ⟨w.heap.size, 4, none⟩ = some (.int .i64 sn) := blk_cell hB.b1 4
  have a5 : w1.cell? ⟨w.heap.size, 5, none⟩ = some (.int .i64 sd) := blk_cell hB.b1 5
  have a6 : w1.cell? ⟨w.heap.size, 6, none⟩ = some (.int .i64 on) := blk_cell hB.b1 6
  have a7 : w1.cell? ⟨w.heap.size, 7, none⟩ = some (.int .i64 od) := blk_cell hB.b1 7
  have a8 : w1.cell? ⟨w.heap.size, 8, none⟩ = some (.string f8) := blk_cell hB.b1 8
  have b0 : w1.cell? ⟨w.heap.size + 1, 0, none⟩ = some (.int .i64 vn) := blk_cell hB.b2 0
  have b1 : w1.cell? ⟨w.heap.size + 1, 1, none⟩ = some (.int .i64 vd) := blk_cell hB.b2 1
  go_wp2_with fail
  refine (HV.out _).mono ?_
  rintro e w2 ⟨rfl, hb2⟩
  replace hB := hB.step hb2
  clear hb2
  clear a0 a1 a2 a3 a4 a5 a6 a7 a8 b0 b1
  have a0 : w2.cell? ⟨w.heap.size, 0, none⟩ = some (.string f0) := blk_cell hB.b1 0
  have a1 : w2.cell? ⟨w.heap.size, 1, none⟩ = some (.int .i64 f1) := blk_cell hB.b1 1
  have a2 : w2.cell? ⟨w.heap.size, 2, none⟩ = some (.string f2) := blk_cell hB.b1 2
  have a3 : w2.cell? ⟨w.heap.size, 3, none⟩ = some (.int .i64 f3) := blk_cell hB.b1 3
  have a4 : w2.cell? ⟨w.heap.size, 4, none⟩ = some (.int .i64 sn) := blk_cell hB.b1 4
  have a5 : w2.cell? ⟨w.heap.size, 5, none⟩ = some (.int .i64 sd) := blk_cell hB.b1 5
  have a6 : w2.cell? ⟨w.heap.size, 6, none⟩ = some (.int .i64 on) := blk_cell hB.b1 6
  have a7 : w2.cell? ⟨w.heap.size, 7, none⟩ = some (.int .i64 od) := blk_cell hB.b1 7
  have a8 : w2.cell? ⟨w.heap.size, 8, none⟩ = some (.string f8) := blk_cell hB.b1 8
  have b0 : w2.cell? ⟨w.heap.size + 1, 0, none⟩ = some (.int .i64 vn) := blk_cell hB.b2 0
  have b1 : w2.cell? ⟨w.heap.size + 1, 1, none⟩ = some (.int .i64 vd) := blk_cell hB.b2 1
  go_wp2_with fail
  refine (PAdd.whole_Neg.calls on nn on1 _ hn).mono ?_
  rintro e w3 ⟨rfl, hb3⟩
  replace hB := hB.step hb3.below
  clear hb3
  clear a0 a1 a2 a3 a4 a5 a6 a7 a8 b0 b1
  have a0 : w3.cell? ⟨w.heap.size, 0, none⟩ = some (.string f0) := blk_cell hB.b1 0
  have a1 : w3.cell? ⟨w.heap.size, 1, none⟩ = some (.int .i64 f1) := blk_cell hB.b1 1
  have a2 : w3.cell? ⟨w.heap.size, 2, none⟩ = some (.string f2) := blk_cell hB.b1 2
  have a3 : w3.cell? ⟨w.heap.size, 3, none⟩ = some (.int .i64 f3) := blk_cell hB.b1 3
  have a4 : w3.cell? ⟨w.heap.size, 4, none⟩ = some (.int .i64 sn) := blk_cell hB.b1 4
  have a5 : w3.cell? ⟨w.heap.size, 5, none⟩ = some (.int .i64 sd) := blk_cell hB.b1 5
  have a6 : w3.cell? ⟨w.heap.size, 6, none⟩ = some (.int .i64 on) := blk_cell hB.b1 6
  have a7 : w3.cell? ⟨w.heap.size, 7, none⟩ = some (.int .i64 od) := blk_cell hB.b1 7
  have a8 : w3.cell? ⟨w.heap.size, 8, none⟩ = some (.string f8) := blk_cell hB.b1 8
  have b0 : w3.cell? ⟨w.heap.size + 1, 0, none⟩ = some (.int .i64 vn) := blk_cell hB.b2 0
  have b1 : w3.cell? ⟨w.heap.size + 1, 1, none⟩ = some (.int .i64 vd) := blk_cell hB.b2 1
  go_wp2_with fail
  refine (HX.out _).mono ?_
  rintro e w4 ⟨rfl, hb4⟩
  replace hB := hB.step hb4
  clear hb4
  clear a0 a1 a2 a3 a4 a5 a6 a7 a8 b0 b1
  have hB5 := hB.step (below_alloc (Below.refl _ _) (.cells #[.int .i64 x1, .int .i64 x2] 29))
  cases on1 with
  | false =>
    go_wp2_with fail
    go_ret2
    exact ⟨rfl, hB5.be⟩
  | true =>
    have hoo2 : ox = false := by rcases hoo with h | h; cases h; exact h
    subst hoo2
    go_wp2_with fail
    go_ret2
    exact ⟨rfl, hB5.be⟩

/-- How Raw ends. -/
def fin (r : Int × Int × Int) : Int × Int := if r.2.2 = 0 then (if r.2.1 = 1 then (r.1, 0) else (0, 6)) else (0, r.2.2)

set_option maxRecDepth 100000 in
set_option maxHeartbeats 4000000 in
theorem raw_good (f0 : ByteArray) (f1 : Int) (f2 : ByteArray) (f3 sn sd on od : Int) (f8 : ByteArray) (vn vd : Int) (hsn : I64 sn) (hsd : I64 sd) (hon : I64 on) (hod : I64 od) (hvn : I64 vn) (hvd : I64 vd) (hr : Rt sn sd ∧ Rt on od) (hv0 : Rt vn vd) (hz : sn ≠ 0) (ho : on ≠ -9223372036854775808) (hs : sn ≠ -9223372036854775808) (w : World) :
    Calls Try.prog 24 #[.agg #[.string f0, .int .i64 f1, .string f2, .int .i64 f3, .int .i64 sn, .int .i64 sd, .int .i64 on, .int .i64 od, .string f8], .agg #[.int .i64 vn, .int .i64 vd]] w fun e w' => e = .returned (.tuple #[.int .i64 (fin (timesW (plusW (vn, vd, 0) (-on) od) (over sn sd).1 (over sn sd).2)).1, .int .i64 (fin (timesW (plusW (vn, vd, 0) (-on) od) (over sn sd).1 (over sn sd).2)).2]) ∧ Below w.heap.size w w' := by
  have hc := fun w => fright_calls f0 f1 f2 f3 sn sd on od f8 hsn hsd hon hod w
  simp only [decide_eq_true hr] at hc
  have HC := Lib.hid hc
  clear hc
  have hv := fun w => right_calls hvn hvd w
  simp only [decide_eq_true hv0] at hv
  have HV := Lib.hid hv
  clear hv
  have z1 : (sn == 0) = false := by simp [hz]
  have ino : I64 (-on) := by unfold I64 at *; omega
  have hn := neg_eq hon
  rw [watched_yes ino] at hn
  have hov := fun w => over_calls hsn hsd hr.1.1 w
  simp only [if_neg hs] at hov
  have ib : I64 (over sn sd).1 ∧ I64 (over sn sd).2 := by
    have := hr.1.1
    unfold over I64 at *
    split <;> constructor <;> dsimp only <;> omega
  obtain ⟨⟨b1, b2⟩, hb⟩ : ∃ b, over sn sd = b := ⟨_, rfl⟩
  simp only [hb] at hov ib
  rw [hb]
  obtain ⟨nn, hnn⟩ : ∃ nn, -on = nn := ⟨_, rfl⟩
  rw [hnn] at hn ino
  rw [hnn]
  have i0 : In (vn, vd, 0) := ⟨hvn, hvd⟩
  have i1 : In (plusW (vn, vd, 0) nn od) := plusW_In i0
  have hp := fun w => plus_calls (r1 := vn) (r2 := vd) (r3 := 0) i0 ino hod w
  obtain ⟨⟨r1, r2, r3⟩, hr1⟩ : ∃ r, plusW (vn, vd, 0) nn od = r := ⟨_, rfl⟩
  rw [hr1] at i1
  simp only [hr1] at hp
  have ht := fun w => times_calls (r1 := r1) (r2 := r2) (r3 := r3) i1 ib.1 ib.2 w
  rw [hr1]
  obtain ⟨⟨q1, q2, q3⟩, hq1⟩ : ∃ r, timesW (r1, r2, r3) b1 b2 = r := ⟨_, rfl⟩
  simp only [hq1] at ht
  rw [hq1]
  clear hr1 hq1 hb hnn hr hv0 ho hs i1
  simp only [way] at ht hp
  have HX := Lib.hid hov
  have HT := Lib.hid ht
  have HP := Lib.hid hp
  clear hov ht hp
  go_enter Try.func24, Try.ntmps24
  go_wp2_with fail
  refine (HC.out _).mono ?_
  rintro e w1 ⟨rfl, hb1⟩
  have hB := (b2_start w (.cells #[.string f0, .int .i64 f1, .string f2, .int .i64 f3, .int .i64 sn, .int .i64 sd, .int .i64 on, .int .i64 od, .string f8] 34) (.cells #[.int .i64 vn, .int .i64 vd] 29)).step hb1
  clear hb1
  have a0 : w1.cell? ⟨w.heap.size, 0, none⟩ = some (.string f0) := blk_cell hB.b1 0
  have a1 : w1.cell? ⟨w.heap.size, 1, none⟩ = some (.int .i64 f1) := blk_cell hB.b1 1
  have a2 : w1.cell? ⟨w.heap.size, 2, none⟩ = some (.string f2) := blk_cell hB.b1 2
  have a3 : w1.cell? ⟨w.heap.size, 3, none⟩ = some (.int .i64 f3) := blk_cell hB.b1 3
  have a4 : w1.cell? ⟨w.heap.size, 4, none⟩ = some (.int .i64 sn) := blk_cell hB.b1 4
  have a5 : w1.cell? ⟨w.heap.size, 5, none⟩ = some (.int .i64 sd) := blk_cell hB.b1 5
  have a6 : w1.cell? ⟨w.heap.size, 6, none⟩ = some (.int .i64 on) := blk_cell hB.b1 6
  have a7 : w1.cell? ⟨w.heap.size, 7, none⟩ = some (.int .i64 od) := blk_cell hB.b1 7
  have a8 : w1.cell? ⟨w.heap.size, 8, none⟩ = some (.string f8) := blk_cell hB.b1 8
  have b0 : w1.cell? ⟨w.heap.size + 1, 0, none⟩ = some (.int .i64 vn) := blk_cell hB.b2 0
  have b1 : w1.cell? ⟨w.heap.size + 1, 1, none⟩ = some (.int .i64 vd) := blk_cell hB.b2 1
  go_wp2_with fail
  refine (HV.out _).mono ?_
  rintro e w2 ⟨rfl, hb2⟩
  replace hB := hB.step hb2
  clear hb2
  clear a0 a1 a2 a3 a4 a5 a6 a7 a8 b0 b1
  have a0 : w2.cell? ⟨w.heap.size, 0, none⟩ = some (.string f0) := blk_cell hB.b1 0
  have a1 : w2.cell? ⟨w.heap.size, 1, none⟩ = some (.int .i64 f1) := blk_cell hB.b1 1
  have a2 : w2.cell? ⟨w.heap.size, 2, none⟩ = some (.string f2) := blk_cell hB.b1 2
  have a3 : w2.cell? ⟨w.heap.size, 3, none⟩ = some (.int .i64 f3) := blk_cell hB.b1 3
  have a4 : w2.cell? ⟨w.heap.size, 4, none⟩ = some (.int .i64 sn) := blk_cell hB.b1 4
  have a5 : w2.cell? ⟨w.heap.size, 5, none⟩ = some (.int .i64 sd) := blk_cell hB.b1 5
  have a6 : w2.cell? ⟨w.heap.size, 6, none⟩ = some (.int .i64 on) := blk_cell hB.b1 6
  have a7 : w2.cell? ⟨w.heap.size, 7, none⟩ = some (.int .i64 od) := blk_cell hB.b1 7
  have a8 : w2.cell? ⟨w.heap.size, 8, none⟩ = some (.string f8) := blk_cell hB.b1 8
  have b0 : w2.cell? ⟨w.heap.size + 1, 0, none⟩ = some (.int .i64 vn) := blk_cell hB.b2 0
  have b1 : w2.cell? ⟨w.heap.size + 1, 1, none⟩ = some (.int .i64 vd) := blk_cell hB.b2 1
  go_wp2_with fail
  refine (PAdd.whole_Neg.calls on nn true _ hn).mono ?_
  rintro e w3 ⟨rfl, hb3⟩
  replace hB := hB.step hb3.below
  clear hb3
  clear a0 a1 a2 a3 a4 a5 a6 a7 a8 b0 b1
  have a0 : w3.cell? ⟨w.heap.size, 0, none⟩ = some (.string f0) := blk_cell hB.b1 0
  have a1 : w3.cell? ⟨w.heap.size, 1, none⟩ = some (.int .i64 f1) := blk_cell hB.b1 1
  have a2 : w3.cell? ⟨w.heap.size, 2, none⟩ = some (.string f2) := blk_cell hB.b1 2
  have a3 : w3.cell? ⟨w.heap.size, 3, none⟩ = some (.int .i64 f3) := blk_cell hB.b1 3
  have a4 : w3.cell? ⟨w.heap.size, 4, none⟩ = some (.int .i64 sn) := blk_cell hB.b1 4
  have a5 : w3.cell? ⟨w.heap.size, 5, none⟩ = some (.int .i64 sd) := blk_cell hB.b1 5
  have a6 : w3.cell? ⟨w.heap.size, 6, none⟩ = some (.int .i64 on) := blk_cell hB.b1 6
  have a7 : w3.cell? ⟨w.heap.size, 7, none⟩ = some (.int .i64 od) := blk_cell hB.b1 7
  have a8 : w3.cell? ⟨w.heap.size, 8, none⟩ = some (.string f8) := blk_cell hB.b1 8
  have b0 : w3.cell? ⟨w.heap.size + 1, 0, none⟩ = some (.int .i64 vn) := blk_cell hB.b2 0
  have b1 : w3.cell? ⟨w.heap.size + 1, 1, none⟩ = some (.int .i64 vd) := blk_cell hB.b2 1
  go_wp2_with fail
  refine (HX.out _).mono ?_
  rintro e w4 ⟨rfl, hb4⟩
  replace hB := hB.step hb4
  clear hb4
  clear a0 a1 a2 a3 a4 a5 a6 a7 a8 b0 b1
  have h8 := hB.size
  replace hB := hB.step (below_alloc (Below.refl _ _) (.cells #[.int .i64 b1, .int .i64 b2] 29))
  have kx := blk_new w4 (.cells #[.int .i64 b1, .int .i64 b2] 29)
  go_wp2_with fail
  obtain ⟨w5, hw5⟩ : ∃ w5, w5 = w4.alloc (.cells #[.int .i64 b1, .int .i64 b2] 29) := ⟨_, rfl⟩
  obtain ⟨p8, hp8⟩ : ∃ p8, p8 = w4.heap.size := ⟨_, rfl⟩
  rw [← hp8] at h8 kx ⊢
  rw [← hw5] at kx hB ⊢
  clear hw5 hp8
  refine start_ (n := 12) (S := fun wx => B2 w wx (.cells #[.string f0, .int .i64 f1, .string f2, .int .i64 f3, .int .i64 sn, .int .i64 sd, .int .i64 on, .int .i64 od, .string f8] 34) (.cells #[.int .i64 vn, .int .i64 vd] 29) ∧ wx.heap[p8]? = some (.cells #[.int .i64 b1, .int .i64 b2] 29 (0, 0))) (ds := []) #[false, false, false, false, false, false, false, false, false, false, false, false] (by kernel_rfl) rfl rfl ⟨hB.step (below_drew (Below.refl _ _)), blk_drew kx⟩ (fun hHeld => ?_)
  refine take_ (i := 0) (N := some 44) (v := ?_) (a' := ?_) #[true, false, false, false, false, false, false, false, false, false, false, false] rfl rfl (by kernel_rfl) (fun _ _ _ h => h) (Or.inl ⟨by rfl, ?_⟩) hHeld ?_ ?_
  rotate_left
  · rintro w' hh
    have s0 : w'.cell? ⟨w.heap.size, 0, none⟩ = some (.string f0) := blk_cell hh.1.b1 0
    have s1 : w'.cell? ⟨w.heap.size, 1, none⟩ = some (.int .i64 f1) := blk_cell hh.1.b1 1
    have s2 : w'.cell? ⟨w.heap.size, 2, none⟩ = some (.string f2) := blk_cell hh.1.b1 2
    have s3 : w'.cell? ⟨w.heap.size, 3, none⟩ = some (.int .i64 f3) := blk_cell hh.1.b1 3
    have s4 : w'.cell? ⟨w.heap.size, 4, none⟩ = some (.int .i64 sn) := blk_cell hh.1.b1 4
    have s5 : w'.cell? ⟨w.heap.size, 5, none⟩ = some (.int .i64 sd) := blk_cell hh.1.b1 5
    have s6 : w'.cell? ⟨w.heap.size, 6, none⟩ = some (.int .i64 on) := blk_cell hh.1.b1 6
    have s7 : w'.cell? ⟨w.heap.size, 7, none⟩ = some (.int .i64 od) := blk_cell hh.1.b1 7
    have s8 : w'.cell? ⟨w.heap.size, 8, none⟩ = some (.string f8) := blk_cell hh.1.b1 8
    have v0 : w'.cell? ⟨w.heap.size + 1, 0, none⟩ = some (.int .i64 vn) := blk_cell hh.1.b2 0
    have v1 : w'.cell? ⟨w.heap.size + 1, 1, none⟩ = some (.int .i64 vd) := blk_cell hh.1.b2 1
    have u0 : w'.cell? ⟨p8, 0, none⟩ = some (.int .i64 b1) := blk_cell hh.2 0
    have u1 : w'.cell? ⟨p8, 1, none⟩ = some (.int .i64 b2) := blk_cell hh.2 1
    go_simp
    with_reducible rfl
  rotate_left
  · simp only [Act.put, List.setIfInBounds_toArray, List.set_cons_zero, List.set_cons_succ, i64_w, i32_w]
    rfl
  refine pure_ (i := 1) (N := some 45) (v := ?_) (a' := ?_) #[true, true, false, false, false, false, false, false, false, false, false, false] rfl rfl (by kernel_rfl) (fun _ _ _ h => h) (Or.inl ⟨by rfl, ?_⟩) ?_ ?_
  rotate_left
  · intro w'
    go_simp
    try with_reducible rfl
  rotate_left
  · simp only [Act.put, List.setIfInBounds_toArray, List.set_cons_zero, List.set_cons_succ, i64_w, i32_w]
    rfl
  refine pure_ (i := 2) (N := some 46) (v := ?_) (a' := ?_) #[true, true, true, false, false, false, false, false, false, false, false, false] rfl rfl (by kernel_rfl) (fun _ _ _ h => h) (Or.inl ⟨by rfl, ?_⟩) ?_ ?_
  rotate_left
  · intro w'
    go_simp
    try with_reducible rfl
  rotate_left
  · simp only [Act.put, List.setIfInBounds_toArray, List.set_cons_zero, List.set_cons_succ, i64_w, i32_w]
    rfl
  refine pure_ (i := 3) (N := some 47) (v := ?_) (a' := ?_) #[true, true, true, true, false, false, false, false, false, false, false, false] rfl rfl (by kernel_rfl) (fun _ _ _ h => h) (Or.inl ⟨by rfl, ?_⟩) ?_ ?_
  rotate_left
  · intro w'
    go_simp
    try with_reducible rfl
  rotate_left
  · simp only [Act.put, List.setIfInBounds_toArray, List.set_cons_zero, List.set_cons_succ, i64_w, i32_w]
    rfl
  refine pure_ (i := 4) (N := some 48) (v := ?_) (a' := ?_) #[true, true, true, true, true, false, false, false, false, false, false, false] rfl rfl (by kernel_rfl) (fun _ _ _ h => h) (Or.inl ⟨by rfl, ?_⟩) ?_ ?_
  rotate_left
  · intro w'
    go_simp
    try with_reducible rfl
  rotate_left
  · simp only [Act.put, List.setIfInBounds_toArray, List.set_cons_zero, List.set_cons_succ, i64_w, i32_w]
    rfl
  refine take_ (i := 5) (N := some 49) (v := ?_) (a' := ?_) #[true, true, true, true, true, true, false, false, false, false, false, false] rfl rfl (by kernel_rfl) (fun _ _ _ h => h) (Or.inl ⟨by rfl, ?_⟩) hHeld ?_ ?_
  rotate_left
  · rintro w' hh
    have s0 : w'.cell? ⟨w.heap.size, 0, none⟩ = some (.string f0) := blk_cell hh.1.b1 0
    have s1 : w'.cell? ⟨w.heap.size, 1, none⟩ = some (.int .i64 f1) := blk_cell hh.1.b1 1
    have s2 : w'.cell? ⟨w.heap.size, 2, none⟩ = some (.string f2) := blk_cell hh.1.b1 2
    have s3 : w'.cell? ⟨w.heap.size, 3, none⟩ = some (.int .i64 f3) := blk_cell hh.1.b1 3
    have s4 : w'.cell? ⟨w.heap.size, 4, none⟩ = some (.int .i64 sn) := blk_cell hh.1.b1 4
    have s5 : w'.cell? ⟨w.heap.size, 5, none⟩ = some (.int .i64 sd) := blk_cell hh.1.b1 5
    have s6 : w'.cell? ⟨w.heap.size, 6, none⟩ = some (.int .i64 on) := blk_cell hh.1.b1 6
    have s7 : w'.cell? ⟨w.heap.size, 7, none⟩ = some (.int .i64 od) := blk_cell hh.1.b1 7
    have s8 : w'.cell? ⟨w.heap.size, 8, none⟩ = some (.string f8) := blk_cell hh.1.b1 8
    have v0 : w'.cell? ⟨w.heap.size + 1, 0, none⟩ = some (.int .i64 vn) := blk_cell hh.1.b2 0
    have v1 : w'.cell? ⟨w.heap.size + 1, 1, none⟩ = some (.int .i64 vd) := blk_cell hh.1.b2 1
    have u0 : w'.cell? ⟨p8, 0, none⟩ = some (.int .i64 b1) := blk_cell hh.2 0
    have u1 : w'.cell? ⟨p8, 1, none⟩ = some (.int .i64 b2) := blk_cell hh.2 1
    go_simp
    with_reducible rfl
  rotate_left
  · simp only [Act.put, List.setIfInBounds_toArray, List.set_cons_zero, List.set_cons_succ, i64_w, i32_w]
    rfl
  refine pure_ (i := 6) (N := some 50) (v := ?_) (a' := ?_) #[true, true, true, true, true, true, true, false, false, false, false, false] rfl rfl (by kernel_rfl) (fun _ _ _ h => h) (Or.inl ⟨by rfl, ?_⟩) ?_ ?_
  rotate_left
  · intro w'
    go_simp
    try with_reducible rfl
  rotate_left
  · simp only [Act.put, List.setIfInBounds_toArray, List.set_cons_zero, List.set_cons_succ, i64_w, i32_w]
    rfl
  refine take_ (i := 8) (N := some 52) (v := ?_) (a' := ?_) #[true, true, true, true, true, true, true, false, true, false, false, false] rfl rfl (by kernel_rfl) (fun _ _ _ h => h) (Or.inl ⟨by rfl, ?_⟩) hHeld ?_ ?_
  rotate_left
  · rintro w' hh
    have s0 : w'.cell? ⟨w.heap.size, 0, none⟩ = some (.string f0) := blk_cell hh.1.b1 0
    have s1 : w'.cell? ⟨w.heap.size, 1, none⟩ = some (.int .i64 f1) := blk_cell hh.1.b1 1
    have s2 : w'.cell? ⟨w.heap.size, 2, none⟩ = some (.string f2) := blk_cell hh.1.b1 2
    have s3 : w'.cell? ⟨w.heap.size, 3, none⟩ = some (.int .i64 f3) := blk_cell hh.1.b1 3
    have s4 : w'.cell? ⟨w.heap.size, 4, none⟩ = some (.int .i64 sn) := blk_cell hh.1.b1 4
    have s5 : w'.cell? ⟨w.heap.size, 5, none⟩ = some (.int .i64 sd) := blk_cell hh.1.b1 5
    have s6 : w'.cell? ⟨w.heap.size, 6, none⟩ = some (.int .i64 on) := blk_cell hh.1.b1 6
    have s7 : w'.cell? ⟨w.heap.size, 7, none⟩ = some (.int .i64 od) := blk_cell hh.1.b1 7
    have s8 : w'.cell? ⟨w.heap.size, 8, none⟩ = some (.string f8) := blk_cell hh.1.b1 8
    have v0 : w'.cell? ⟨w.heap.size + 1, 0, none⟩ = some (.int .i64 vn) := blk_cell hh.1.b2 0
    have v1 : w'.cell? ⟨w.heap.size + 1, 1, none⟩ = some (.int .i64 vd) := blk_cell hh.1.b2 1
    have u0 : w'.cell? ⟨p8, 0, none⟩ = some (.int .i64 b1) := blk_cell hh.2 0
    have u1 : w'.cell? ⟨p8, 1, none⟩ = some (.int .i64 b2) := blk_cell hh.2 1
    go_simp
    with_reducible rfl
  rotate_left
  · simp only [Act.put, List.setIfInBounds_toArray, List.set_cons_zero, List.set_cons_succ, i64_w, i32_w]
    rfl
  refine join_ (σ := Nat) 1 #[true, true, true, true, true, true, true, true, true, true, true, false] (fun s => [(51, .agg #[.int .i64 r1, .int .i64 r2, .int .i64 r3]), (53, .agg #[.int .i64 q1, .int .i64 q2, .int .i64 q3]), (10, .pointer (some ⟨s, 0, none⟩))]) (fun s wx => (B2 w wx (.cells #[.string f0, .int .i64 f1, .string f2, .int .i64 f3, .int .i64 sn, .int .i64 sd, .int .i64 on, .int .i64 od, .string f8] 34) (.cells #[.int .i64 vn, .int .i64 vd] 29) ∧ wx.heap[p8]? = some (.cells #[.int .i64 b1, .int .i64 b2] 29 (0, 0))) ∧ wx.heap[s]? = some (.cells #[.int .i64 0, .int .i64 0, .int .i64 0] 93 (0, 0)) ∧ p8 + 1 ≤ s ∧ True) ?_ ?hall
  case hall =>
    intro hj_7_9_10
    refine join_ (σ := Nat) 2 #[true, true, true, true, true, true, true, true, true, true, false, false] (fun s => [(51, .agg #[.int .i64 r1, .int .i64 r2, .int .i64 r3]), (53, .agg #[.int .i64 q1, .int .i64 q2, .int .i64 q3])]) (fun s wx => (B2 w wx (.cells #[.string f0, .int .i64 f1, .string f2, .int .i64 f3, .int .i64 sn, .int .i64 sd, .int .i64 on, .int .i64 od, .string f8] 34) (.cells #[.int .i64 vn, .int .i64 vd] 29) ∧ wx.heap[p8]? = some (.cells #[.int .i64 b1, .int .i64 b2] 29 (0, 0))) ∧ True) ?c_7_9 ?_
    case c_7_9 =>
      rintro p10 wN hF
      obtain ⟨hHeld, _⟩ := hF
      refine norm_ (a' := ?_) ?_ ?_
      rotate_left
      · simp only [putAll, Act.put, List.setIfInBounds_toArray, List.set_cons_zero, List.set_cons_succ, i64_w, i32_w]
        rfl
      refine one_ (i := 10) (N := some 10) #[true, true, true, true, true, true, true, true, true, true, true, false] rfl rfl (by kernel_rfl) (by decide) (fun K hK => ?_)
      refine box_step (by rfl) (N := 10) rfl (cs := #[.int .i64 0, .int .i64 0, .int .i64 0]) (t := 93) ?_ ?_
      · first
          | (go_simp; done)
          | (go_simp; rfl)
      intro p10 hp_ w_ hbox_ hB_
      have hS_ := And.intro (hHeld.1.step hB_) (blk_below hHeld.2 hB_)
      have hz_ := blk_lt hHeld.2
      refine hK.out _ _ hS_ (fun hHeld_ => ?_)
      clear hK K
      exact norm_ (by rfl) (hj_7_9_10 (p10) w_ ⟨hS_, hbox_, by show p8 + 1 ≤ p10; omega, trivial⟩)
    intro hj_7_9
    refine join_ (σ := Nat) 2 #[true, true, true, true, true, true, true, true, true, false, true, false] (fun s => [(51, .agg #[.int .i64 r1, .int .i64 r2, .int .i64 r3]), (10, .pointer (some ⟨s, 0, none⟩))]) (fun s wx => (B2 w wx (.cells #[.string f0, .int .i64 f1, .string f2, .int .i64 f3, .int .i64 sn, .int .i64 sd, .int .i64 on, .int .i64 od, .string f8] 34) (.cells #[.int .i64 vn, .int .i64 vd] 29) ∧ wx.heap[p8]? = some (.cells #[.int .i64 b1, .int .i64 b2] 29 (0, 0))) ∧ wx.heap[s]? = some (.cells #[.int .i64 0, .int .i64 0, .int .i64 0] 93 (0, 0)) ∧ p8 + 1 ≤ s ∧ True) ?c_7_10 ?_
    case c_7_10 =>
      rintro p10 wN hF
      obtain ⟨hHeld, hb10, hl10, _⟩ := hF
      replace hb10 : wN.heap[p10]? = some (.cells #[.int .i64 0, .int .i64 0, .int .i64 0] 93 (0, 0)) := hb10
      replace hl10 : p8 + 1 ≤ p10 := hl10
      refine norm_ (a' := ?_) ?_ ?_
      rotate_left
      · simp only [putAll, Act.put, List.setIfInBounds_toArray, List.set_cons_zero, List.set_cons_succ, i64_w, i32_w]
        rfl
      refine one_ (i := 9) (N := some 53) #[true, true, true, true, true, true, true, true, true, true, true, false] rfl rfl (by kernel_rfl) (by decide) (fun K hK => ?_)
      refine goes_ Try.func53 (by kernel_rfl) rfl #[.agg #[.int .i64 r1, .int .i64 r2, .int .i64 r3], .agg #[.int .i64 b1, .int .i64 b2]] (by rfl) rfl rfl (by (try simp only [List.map_toArray, List.map_cons, List.map_nil]); first | done | rfl) ?_
      refine (HT.out _).mono ?_
      rintro e_ w_ ⟨rfl, hb_⟩
      refine ⟨_, rfl, ?_⟩
      have hS_ := And.intro (hHeld.1.step hb_) (blk_below hHeld.2 hb_)
      refine hK.out _ _ hS_ (fun hHeld_ => ?_)
      clear hK K
      exact norm_ (by rfl) (hj_7_9_10 (p10) w_ ⟨hS_, blk_below hb10 hb_, hl10, trivial⟩)
    intro hj_7_10
    refine join_ (σ := Nat) 3 #[true, true, true, true, true, true, true, true, true, false, false, false] (fun s => [(51, .agg #[.int .i64 r1, .int .i64 r2, .int .i64 r3])]) (fun s wx => (B2 w wx (.cells #[.string f0, .int .i64 f1, .string f2, .int .i64 f3, .int .i64 sn, .int .i64 sd, .int .i64 on, .int .i64 od, .string f8] 34) (.cells #[.int .i64 vn, .int .i64 vd] 29) ∧ wx.heap[p8]? = some (.cells #[.int .i64 b1, .int .i64 b2] 29 (0, 0))) ∧ True) ?c_7 ?_
    case c_7 =>
      rintro p10 wN hF
      obtain ⟨hHeld, _⟩ := hF
      refine norm_ (a' := ?_) ?_ ?_
      rotate_left
      · simp only [putAll, Act.put, List.setIfInBounds_toArray, List.set_cons_zero, List.set_cons_succ, i64_w, i32_w]
        rfl
      refine two_ (i := 9) (j := 10) (Ni := some 53) (Nj := some 10) #[true, true, true, true, true, true, true, true, true, true, false, false] #[true, true, true, true, true, true, true, true, true, false, true, false] rfl rfl rfl rfl (by kernel_rfl) (by decide) (by decide) (fun K hK => ?_) (fun K hK => ?_)
      · refine goes_ Try.func53 (by kernel_rfl) rfl #[.agg #[.int .i64 r1, .int .i64 r2, .int .i64 r3], .agg #[.int .i64 b1, .int .i64 b2]] (by rfl) rfl rfl (by (try simp only [List.map_toArray, List.map_cons, List.map_nil]); first | done | rfl) ?_
        refine (HT.out _).mono ?_
        rintro e_ w_ ⟨rfl, hb_⟩
        refine ⟨_, rfl, ?_⟩
        have hS_ := And.intro (hHeld.1.step hb_) (blk_below hHeld.2 hb_)
        refine hK.out _ _ hS_ (fun hHeld_ => ?_)
        clear hK K
        exact norm_ (by rfl) (hj_7_9 (0) w_ ⟨hS_, trivial⟩)
      · refine box_step (by rfl) (N := 10) rfl (cs := #[.int .i64 0, .int .i64 0, .int .i64 0]) (t := 93) ?_ ?_
        · first
            | (go_simp; done)
            | (go_simp; rfl)
        intro p10 hp_ w_ hbox_ hB_
        have hS_ := And.intro (hHeld.1.step hB_) (blk_below hHeld.2 hB_)
        have hz_ := blk_lt hHeld.2
        refine hK.out _ _ hS_ (fun hHeld_ => ?_)
        clear hK K
        exact norm_ (by rfl) (hj_7_10 (p10) w_ ⟨hS_, hbox_, by show p8 + 1 ≤ p10; omega, trivial⟩)
    intro hj_7
    refine join_ (σ := Nat) 3 #[true, true, true, true, true, true, true, false, true, false, true, false] (fun s => [(10, .pointer (some ⟨s, 0, none⟩))]) (fun s wx => (B2 w wx (.cells #[.string f0, .int .i64 f1, .string f2, .int .i64 f3, .int .i64 sn, .int .i64 sd, .int .i64 on, .int .i64 od, .string f8] 34) (.cells #[.int .i64 vn, .int .i64 vd] 29) ∧ wx.heap[p8]? = some (.cells #[.int .i64 b1, .int .i64 b2] 29 (0, 0))) ∧ wx.heap[s]? = some (.cells #[.int .i64 0, .int .i64 0, .int .i64 0] 93 (0, 0)) ∧ p8 + 1 ≤ s ∧ True) ?c_10 ?_
    case c_10 =>
      rintro p10 wN hF
      obtain ⟨hHeld, hb10, hl10, _⟩ := hF
      replace hb10 : wN.heap[p10]? = some (.cells #[.int .i64 0, .int .i64 0, .int .i64 0] 93 (0, 0)) := hb10
      replace hl10 : p8 + 1 ≤ p10 := hl10
      refine norm_ (a' := ?_) ?_ ?_
      rotate_left
      · simp only [putAll, Act.put, List.setIfInBounds_toArray, List.set_cons_zero, List.set_cons_succ, i64_w, i32_w]
        rfl
      refine one_ (i := 7) (N := some 51) #[true, true, true, true, true, true, true, true, true, false, true, false] rfl rfl (by kernel_rfl) (by decide) (fun K hK => ?_)
      refine goes_ Try.func54 (by kernel_rfl) rfl #[.agg #[.int .i64 vn, .int .i64 vd, .int .i64 0], .agg #[.int .i64 nn, .int .i64 od]] (by rfl) rfl rfl (by (try simp only [List.map_toArray, List.map_cons, List.map_nil]); first | done | rfl) ?_
      refine (HP.out _).mono ?_
      rintro e_ w_ ⟨rfl, hb_⟩
      refine ⟨_, rfl, ?_⟩
      have hS_ := And.intro (hHeld.1.step hb_) (blk_below hHeld.2 hb_)
      refine hK.out _ _ hS_ (fun hHeld_ => ?_)
      clear hK K
      exact norm_ (by rfl) (hj_7_10 (p10) w_ ⟨hS_, blk_below hb10 hb_, hl10, trivial⟩)
    intro hj_10
    refine two_ (i := 7) (j := 10) (Ni := some 51) (Nj := some 10) #[true, true, true, true, true, true, true, true, true, false, false, false] #[true, true, true, true, true, true, true, false, true, false, true, false] rfl rfl rfl rfl (by kernel_rfl) (by decide) (by decide) (fun K hK => ?_) (fun K hK => ?_)
    · refine goes_ Try.func54 (by kernel_rfl) rfl #[.agg #[.int .i64 vn, .int .i64 vd, .int .i64 0], .agg #[.int .i64 nn, .int .i64 od]] (by rfl) rfl rfl (by (try simp only [List.map_toArray, List.map_cons, List.map_nil]); first | done | rfl) ?_
      refine (HP.out _).mono ?_
      rintro e_ w_ ⟨rfl, hb_⟩
      refine ⟨_, rfl, ?_⟩
      have hS_ := And.intro (hHeld.1.step hb_) (blk_below hHeld.2 hb_)
      refine hK.out _ _ hS_ (fun hHeld_ => ?_)
      clear hK K
      exact norm_ (by rfl) (hj_7 (0) w_ ⟨hS_, trivial⟩)
    · refine box_step (by rfl) (N := 10) rfl (cs := #[.int .i64 0, .int .i64 0, .int .i64 0]) (t := 93) ?_ ?_
      · first
          | (go_simp; done)
          | (go_simp; rfl)
      intro p10 hp_ w_ hbox_ hB_
      have hS_ := And.intro (hHeld.1.step hB_) (blk_below hHeld.2 hB_)
      have hz_ := blk_lt hHeld.2
      refine hK.out _ _ hS_ (fun hHeld_ => ?_)
      clear hK K
      exact norm_ (by rfl) (hj_10 (p10) w_ ⟨hS_, hbox_, by show p8 + 1 ≤ p10; omega, trivial⟩)
  clear hHeld
  rintro p10 wN hF
  obtain ⟨hHeld, hb10, hl10, _⟩ := hF
  replace hb10 : wN.heap[p10]? = some (.cells #[.int .i64 0, .int .i64 0, .int .i64 0] 93 (0, 0)) := hb10
  replace hl10 : p8 + 1 ≤ p10 := hl10
  refine norm_ (a' := ?_) ?_ ?_
  rotate_left
  · simp only [putAll, Act.put, List.setIfInBounds_toArray, List.set_cons_zero, List.set_cons_succ, i64_w, i32_w]
    rfl
  have c0 : wN.cell? ⟨p10, 0, none⟩ = some (.int .i64 0) := blk_cell hb10 0
  have cf0 : wN.frozen? ⟨p10, 0, none⟩ = false := blk_frozen hb10 0
  have c1 : wN.cell? ⟨p10, 1, none⟩ = some (.int .i64 0) := blk_cell hb10 1
  have cf1 : wN.frozen? ⟨p10, 1, none⟩ = false := blk_frozen hb10 1
  have c2 : wN.cell? ⟨p10, 2, none⟩ = some (.int .i64 0) := blk_cell hb10 2
  have cf2 : wN.frozen? ⟨p10, 2, none⟩ = false := blk_frozen hb10 2
  have h108 : p8 ≠ p10 := by omega
  have h102 : w.heap.size + 2 ≤ p10 := by omega
  refine one_ (i := 11) (N := none) #[true, true, true, true, true, true, true, true, true, true, true, true] rfl rfl (by kernel_rfl) (by decide) (fun K hK => ?_)
  refine skip_ (w1 := ((wN.setCell ⟨p10, 0, none⟩ (.int .i64 q1)).setCell ⟨p10, 1, none⟩ (.int .i64 q2)).setCell ⟨p10, 2, none⟩ (.int .i64 q3)) (by rfl) rfl ?_ ?_
  · first
    | (go_simp; done)
    | (go_simp; rfl)
  refine hK.out _ _ ⟨(((hHeld.1.far (p := ⟨p10, 0, none⟩) h102 (.int .i64 q1)).far (p := ⟨p10, 1, none⟩) h102 (.int .i64 q2)).far (p := ⟨p10, 2, none⟩) h102 (.int .i64 q3)), (blk_far (blk_far (blk_far hHeld.2 (p := ⟨p10, 0, none⟩) h108 _) (p := ⟨p10, 1, none⟩) h108 _) (p := ⟨p10, 2, none⟩) h108 _)⟩ (fun hHeld => ?_)
  clear hK K
  refine norm_ (a' := ?_) ?_ ?_
  rotate_left
  · rfl
  refine done_ (by kernel_rfl) ?_
  have kx := blk_set (blk_set (blk_set hb10 0 (.int .i64 q1)) 1 (.int .i64 q2)) 2 (.int .i64 q3)
  clear hB
  obtain ⟨w7, hw7⟩ : ∃ w7, w7 = ((wN.setCell ⟨p10, 0, none⟩ (.int .i64 q1)).setCell ⟨p10, 1, none⟩ (.int .i64 q2)).setCell ⟨p10, 2, none⟩ (.int .i64 q3) := ⟨_, rfl⟩
  rw [← hw7] at kx hHeld ⊢
  have hB := hHeld.1
  clear hHeld hw7 hb10 c0 c1 c2 cf0 cf1 cf2
  have c0 : w7.cell? ⟨p10, 0, none⟩ = some (.int .i64 q1) := blk_cell kx 0
  have c1 : w7.cell? ⟨p10, 1, none⟩ = some (.int .i64 q2) := blk_cell kx 1
  have c2 : w7.cell? ⟨p10, 2, none⟩ = some (.int .i64 q3) := blk_cell kx 2
  by_cases h3 : q3 = 0
  · subst h3
    by_cases h2 : q2 = 1
    · subst h2
      go_wp2_with fail
      go_ret2
      exact ⟨rfl, hB.be⟩
    · have e2 : (q2 == 1) = false := by simp [h2]
      have hf : fin (q1, q2, 0) = (0, 6) := by simp [fin, h2]
      have HF := Lib.hid hf
      clear hf
      go_wp2_with fail
      go_ret2
      rw [HF.out]
      exact ⟨rfl, hB.be⟩
  · have e3 : (q3 == 0) = false := by simp [h3]
    have hf : fin (q1, q2, q3) = (0, q3) := by simp [fin, h3]
    have HF := Lib.hid hf
    clear hf
    go_wp2_with fail
    go_region
    have hB9 := below_drew1 hB.be
    go_wp2_with fail
    go_ret2
    rw [HF.out]
    exact ⟨rfl, hB9⟩

/-- The raw number of a value, what went wrong. -/
def rawR (sn sd on od vn vd : Int) : Int × Int :=
  if ¬ ((Rt sn sd ∧ Rt on od) ∧ Rt vn vd) then (0, 1) else if sn = 0 then (0, 3) else if on = -9223372036854775808 ∨ sn = -9223372036854775808 then (0, 2)
  else fin (timesW (plusW (vn, vd, 0) (-on) od) (over sn sd).1 (over sn sd).2)
set_option maxRecDepth 100000 in
set_option maxHeartbeats 4000000 in
theorem raw_calls (f0 : ByteArray) (f1 : Int) (f2 : ByteArray) (f3 sn sd on od : Int) (f8 : ByteArray) (vn vd : Int) (hsn : I64 sn) (hsd : I64 sd) (hon : I64 on) (hod : I64 od) (hvn : I64 vn) (hvd : I64 vd) (w : World) :
    Calls Try.prog 24 #[.agg #[.string f0, .int .i64 f1, .string f2, .int .i64 f3, .int .i64 sn, .int .i64 sd, .int .i64 on, .int .i64 od, .string f8], .agg #[.int .i64 vn, .int .i64 vd]] w fun e w' => e = .returned (.tuple #[.int .i64 (rawR sn sd on od vn vd).1, .int .i64 (rawR sn sd on od vn vd).2]) ∧ Below w.heap.size w w' := by
  unfold rawR
  by_cases hr : Rt sn sd ∧ Rt on od
  · by_cases hv0 : Rt vn vd
    · rw [if_neg (by simp [hr, hv0])]
      by_cases hz : sn = 0
      · rw [if_pos hz]
        exact raw_zero f0 f1 f2 f3 sn sd on od f8 vn vd hsn hsd hon hod hvn hvd hr hv0 hz w
      · rw [if_neg hz]
        by_cases ho : on = -9223372036854775808 ∨ sn = -9223372036854775808
        · rw [if_pos ho]
          exact raw_over f0 f1 f2 f3 sn sd on od f8 vn vd hsn hsd hon hod hvn hvd hr hv0 hz ho w
        · rw [if_neg ho]
          exact raw_good f0 f1 f2 f3 sn sd on od f8 vn vd hsn hsd hon hod hvn hvd hr hv0 hz (fun h => ho (.inl h)) (fun h => ho (.inr h)) w
    · rw [if_pos (by simp [hv0])]
      exact raw_wrong2 f0 f1 f2 f3 sn sd on od f8 vn vd hsn hsd hon hod hvn hvd hr hv0 w
  · rw [if_pos (by simp [hr])]
    exact raw_wrong1 f0 f1 f2 f3 sn sd on od f8 vn vd hsn hsd hon hod hvn hvd hr w
end Go.Proofs.Ytcldlfhnmkogeaa.Scale

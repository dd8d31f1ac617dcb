import Derived.Test.YtcldlfhnmkogeaaScaleWay
/- The value of a field (scale.Value), walked. -/
set_option linter.unusedVariables false
set_option linter.unusedSimpArgs false
namespace Go.Proofs.Ytcldlfhnmkogeaa.Scale
open Go.RowKit Go.Proofs.YtcldlfhnmkogeaaW.PrintWords Go.Proofs.YtcldlfhnmkogeaaW.PrintLast Go.Proofs.Ytcldlfhnmkogeaa.Nats Go.Proofs.Ytcldlfhnmkogeaa.HeapKit Go.Proofs.Ytcldlfhnmkogeaa.PAdd Go.Proofs.Ytcldlfhnmkogeaa.RatPlain
/-- One more step of a value on its way. -/
def timesW (r : Int × Int × Int) (bn bd : Int) : Int × Int × Int := if r.2.2 = 0 then told (Rt r.1 r.2.1 ∧ Rt bn bd) (mulR r.1 r.2.1 bn bd) else r
def plusW (r : Int × Int × Int) (bn bd : Int) : Int × Int × Int := if r.2.2 = 0 then told (Rt r.1 r.2.1 ∧ Rt bn bd) (addR r.1 r.2.1 bn bd) else r
theorem low_I64 {n d : Int} (hn : I64 n) (hd : I64 d) (h0 : 0 < d) : I64 (low n d).1 ∧ I64 (low n d).2 := ⟨hn.tdiv (gcd_pos h0), hd.tdiv (gcd_pos h0)⟩
/-- A way within 64 bits. -/
def In (r : Int × Int × Int) : Prop := I64 r.1 ∧ I64 r.2.1
theorem told_In {P : Prop} [Decidable P] {r : Option (Int × Int)} (h : P → ∀ p, r = some p → I64 p.1 ∧ I64 p.2) : In (told P r) := by
  have h0 : I64 0 := by decide
  unfold told
  split
  · rename_i hp
    cases r with
    | none => exact ⟨h0, h0⟩
    | some p => exact h hp p rfl
  · exact ⟨h0, h0⟩
theorem mul_In {an ad bn bd : Int} (ra : Rt an ad) (rb : Rt bn bd) : ∀ p, mulR an ad bn bd = some p → I64 p.1 ∧ I64 p.2 := by
  intro p h
  simp only [mulR] at h
  split at h
  · rename_i hi
    cases h
    exact low_I64 hi.1 hi.2 (Int.mul_pos (exact_pos rb.1 (dvd_right _ _) (gcd_pos rb.1)) (exact_pos ra.1 (dvd_right _ _) (gcd_pos ra.1)))
  · cases h
theorem add_In {an ad bn bd : Int} (ra : Rt an ad) (rb : Rt bn bd) : ∀ p, addR an ad bn bd = some p → I64 p.1 ∧ I64 p.2 := by
  intro p h
  simp only [addR] at h
  split at h
  · rename_i hi
    cases h
    exact low_I64 hi.2.2.1 hi.2.2.2 (Int.mul_pos ra.1 (exact_pos rb.1 (dvd_right _ _) (gcd_pos rb.1)))
  · cases h
theorem timesW_In {r : Int × Int × Int} {bn bd : Int} (h : In r) : In (timesW r bn bd) := by
  unfold timesW
  split
  · exact told_In (fun hp => mul_In hp.1 hp.2)
  · exact h
theorem plusW_In {r : Int × Int × Int} {bn bd : Int} (h : In r) : In (plusW r bn bd) := by
  unfold plusW
  split
  · exact told_In (fun hp => add_In hp.1 hp.2)
  · exact h
theorem times_calls {r1 r2 r3 bn bd : Int} (h : In (r1, r2, r3)) (h3 : I64 bn) (h4 : I64 bd) (w : World) :
    Calls Try.prog 53 #[.agg #[.int .i64 r1, .int .i64 r2, .int .i64 r3], .agg #[.int .i64 bn, .int .i64 bd]] w fun x w' => x = way (timesW (r1, r2, r3) bn bd) ∧ Below w.heap.size w w' := by
  by_cases he : r3 = 0
  · subst he
    exact times_on h.1 h.2 h3 h4 w
  · have := times_off (n := r1) (d := r2) (bn := bn) (bd := bd) he w
    unfold timesW
    rw [if_neg (by exact he)]
    exact this
theorem plus_calls {r1 r2 r3 bn bd : Int} (h : In (r1, r2, r3)) (h3 : I64 bn) (h4 : I64 bd) (w : World) :
    Calls Try.prog 54 #[.agg #[.int .i64 r1, .int .i64 r2, .int .i64 r3], .agg #[.int .i64 bn, .int .i64 bd]] w fun x w' => x = way (plusW (r1, r2, r3) bn bd) ∧ Below w.heap.size w w' := by
  by_cases he : r3 = 0
  · subst he
    exact plus_on h.1 h.2 h3 h4 w
  · have := plus_off (n := r1) (d := r2) (bn := bn) (bd := bd) he w
    unfold plusW
    rw [if_neg (by exact he)]
    exact this
theorem right_calls {n d : Int} (hn : I64 n) (hd : I64 d) (w : World) : Calls Try.prog 55 #[.agg #[.int .i64 n, .int .i64 d]] w fun e w' => e = .returned (.bool (decide (Rt n d))) ∧ Below w.heap.size w w' :=
  ratio_Right.calls (big + 1) n d _ _ (right_eq hn hd (by omega))

set_option maxRecDepth 100000 in
set_option maxHeartbeats 4000000 in
theorem fright_calls (f0 : ByteArray) (f1 : Int) (f2 : ByteArray) (f3 sn sd on od : Int) (f8 : ByteArray) (hsn : I64 sn) (hsd : I64 sd) (hon : I64 on) (hod : I64 od) (w : World) :
    Calls Try.prog 52 #[.agg #[.string f0, .int .i64 f1, .string f2, .int .i64 f3, .int .i64 sn, .int .i64 sd, .int .i64 on, .int .i64 od, .string f8]] w fun e w' => e = .returned (.bool (decide (Rt sn sd ∧ Rt on od))) ∧ Below w.heap.size w w' := by
  have hr1 := fun w => right_calls hsn hsd w
  have hr2 := fun w => right_calls hon hod w
  have hP : decide (Rt sn sd ∧ Rt on od) = (decide (Rt sn sd) && decide (Rt on od)) := by simp
  rw [hP]
  obtain ⟨r1, e1⟩ : ∃ r1, decide (Rt sn sd) = r1 := ⟨_, rfl⟩
  obtain ⟨r2, e2⟩ : ∃ r2, decide (Rt on od) = r2 := ⟨_, rfl⟩
  simp only [e1] at hr1
  simp only [e2] at hr2
  rw [e1, e2]
  clear hP e1 e2
  have HR1 := Lib.hid hr1
  have HR2 := Lib.hid hr2
  clear hr1 hr2
  have hB := b1_start w (.cells #[.string f0, .int .i64 f1, .string f2, .int .i64 f3, .int .i64 sn, .int .i64 sd, .int .i64 on, .int .i64 od, .string f8] 34)
  go_enter Try.func52, Try.ntmps52
  go_wp2_with fail
  refine (HR1.out _).mono ?_
  rintro e w1 ⟨rfl, hb1⟩
  replace hB := hB.step hb1
  clear hb1
  have a0 : w1.cell? ⟨w.heap.size, 0, none⟩ = some (.string f0) := blk_cell hB.b1 0
  have a1 : w1.cell? ⟨w.heap.size, 1, none⟩ = some (.int .i64 f1) := blk_cell hB.b1 1
  have a2 : w1.cell? ⟨w.heap.size, 2, none⟩ = some (.string f2) := blk_cell hB.b1 2
  have a3 : w1.cell? ⟨w.heap.size, 3, none⟩ = some (.int .i64 f3) := blk_cell hB.b1 3
  have a4 : w1.cell? ⟨w.heap.size, 4, none⟩ = some (.int .i64 sn) := blk_cell hB.b1 4
  have a5 : w1.cell? ⟨w.heap.size, 5, none⟩ = some (.int .i64 sd) := blk_cell hB.b1 5
  have a6 : w1.cell? ⟨w.heap.size, 6, none⟩ = some (.int .i64 on) := blk_cell hB.b1 6
  have a7 : w1.cell? ⟨w.heap.size, 7, none⟩ = some (.int .i64 od) := blk_cell hB.b1 7
  have a8 : w1.cell? ⟨w.heap.size, 8, none⟩ = some (.string f8) := blk_cell hB.b1 8
  cases r1 with
  | false =>
    go_wp2_with fail
    go_ret
    exact ⟨by simp, hB.be⟩
  | true =>
    go_wp2_with fail
    refine (HR2.out _).mono ?_
    rintro e w2 ⟨rfl, hb2⟩
    replace hB := hB.step hb2
    clear hb2
    go_wp2_with fail
    go_ret
    exact ⟨by simp, hB.be⟩

/-- The value of a raw number, what went wrong. -/
def valueR (sn sd on od raw : Int) : Int × Int × Int := if Rt sn sd ∧ Rt on od then plusW (timesW (raw, 1, 0) sn sd) on od else (0, 0, 1)

set_option maxRecDepth 100000 in
set_option maxHeartbeats 4000000 in
theorem value_wrong (f0 : ByteArray) (f1 : Int) (f2 : ByteArray) (f3 sn sd on od : Int) (f8 : ByteArray) (raw : Int) (hsn : I64 sn) (hsd : I64 sd) (hon : I64 on) (hod : I64 od) (hr : ¬ (Rt sn sd ∧ Rt on od)) (w : World) :
    Calls Try.prog 22 #[.agg #[.string f0, .int .i64 f1, .string f2, .int .i64 f3, .int .i64 sn, .int .i64 sd, .int .i64 on, .int .i64 od, .string f8], .int .i64 raw] w fun e w' => e = ans (0, 0, 1) ∧ Below w.heap.size w w' := by
  have hc := fun w => fright_calls f0 f1 f2 f3 sn sd on od f8 hsn hsd hon hod w
  simp only [decide_eq_false hr] at hc
  have HC := Lib.hid hc
  clear hc
  go_enter Try.func22, Try.ntmps22
  go_wp2_with fail
  refine (HC.out _).mono ?_
  rintro e w1 ⟨rfl, hb1⟩
  have hB := (b2_start w (.cells #[.string f0, .int .i64 f1, .string f2, .int .i64 f3, .int .i64 sn, .int .i64 sd, .int .i64 on, .int .i64 od, .string f8] 34) (.cells #[.int .i64 0, .int .i64 0] 29)).step hb1
  clear hb1
  have hx_ := hB.b2
  have d_0 : w1.cell? ⟨w.heap.size + 1, 0, none⟩ = some (.int .i64 0) := blk_cell hx_ 0
  have df_0 : w1.frozen? ⟨w.heap.size + 1, 0, none⟩ = false := blk_frozen hx_ 0
  have d_1 : w1.cell? ⟨w.heap.size + 1, 1, none⟩ = some (.int .i64 0) := blk_cell hx_ 1
  have df_1 : w1.frozen? ⟨w.heap.size + 1, 1, none⟩ = false := blk_frozen hx_ 1
  go_wp2_with fail
  have k_ := (blk_set (blk_set hx_ 0 (.int .i64 0)) 1 (.int .i64 0))
  have hB_ := (Below.setCell (Below.setCell hB.be (p := ⟨w.heap.size + 1, 0, none⟩) ((by show w.heap.size ≤ w.heap.size + 1; omega)) (.int .i64 0)) (p := ⟨w.heap.size + 1, 1, none⟩) ((by show w.heap.size ≤ w.heap.size + 1; omega)) (.int .i64 0))
  obtain ⟨w_, hw_⟩ : ∃ w_, w_ = (World.setCell (World.setCell w1 ⟨w.heap.size + 1, 0, none⟩ (.int .i64 0)) ⟨w.heap.size + 1, 1, none⟩ (.int .i64 0)) := ⟨_, rfl⟩
  rw [← hw_] at k_ hB_
  try rw [← hw_]
  clear hw_
  have s_0 : w_.cell? ⟨w.heap.size + 1, 0, none⟩ = some (.int .i64 0) := blk_cell k_ 0
  have s_1 : w_.cell? ⟨w.heap.size + 1, 1, none⟩ = some (.int .i64 0) := blk_cell k_ 1
  refine bodyPost_ret (by simp [results, Try.results22, go_sem, s_0, s_1]; try rfl) rfl ?_
  exact ⟨rfl, hB_⟩

set_option maxRecDepth 100000 in
set_option maxHeartbeats 4000000 in
theorem value_right (f0 : ByteArray) (f1 : Int) (f2 : ByteArray) (f3 sn sd on od : Int) (f8 : ByteArray) (raw : Int) (hsn : I64 sn) (hsd : I64 sd) (hon : I64 on) (hod : I64 od) (hraw : I64 raw) (hr : Rt sn sd ∧ Rt on od) (w : World) :
    Calls Try.prog 22 #[.agg #[.string f0, .int .i64 f1, .string f2, .int .i64 f3, .int .i64 sn, .int .i64 sd, .int .i64 on, .int .i64 od, .string f8], .int .i64 raw] w fun e w' => e = ans (plusW (timesW (raw, 1, 0) sn sd) on od) ∧ Below w.heap.size w w' := by
  have hc := fun w => fright_calls f0 f1 f2 f3 sn sd on od f8 hsn hsd hon hod w
  simp only [decide_eq_true hr] at hc
  have i0 : In (raw, 1, 0) := ⟨hraw, (by decide : I64 1)⟩
  have i1 : In (timesW (raw, 1, 0) sn sd) := timesW_In i0
  have ht := fun w => times_calls (r1 := raw) (r2 := 1) (r3 := 0) i0 hsn hsd w
  obtain ⟨⟨r1, r2, r3⟩, hr1⟩ : ∃ r, timesW (raw, 1, 0) sn sd = r := ⟨_, rfl⟩
  rw [hr1] at i1
  simp only [hr1] at ht
  have hp := fun w => plus_calls (r1 := r1) (r2 := r2) (r3 := r3) i1 hon hod w
  rw [hr1]
  obtain ⟨⟨q1, q2, q3⟩, hq1⟩ : ∃ r, plusW (r1, r2, r3) on od = r := ⟨_, rfl⟩
  simp only [hq1] at hp
  rw [hq1]
  clear hr1 hq1
  simp only [way] at ht hp
  have HC := Lib.hid hc
  have HT := Lib.hid ht
  have HP := Lib.hid hp
  clear hc ht hp
  go_enter Try.func22, Try.ntmps22
  go_wp2_with fail
  refine (HC.out _).mono ?_
  rintro e w1 ⟨rfl, hb1⟩
  have hB := (b2_start w (.cells #[.string f0, .int .i64 f1, .string f2, .int .i64 f3, .int .i64 sn, .int .i64 sd, .int .i64 on, .int .i64 od, .string f8] 34) (.cells #[.int .i64 0, .int .i64 0] 29)).step hb1
  clear hb1
  go_wp2_with fail
  refine start_ (n := 11) (S := fun wx => B2 w wx (.cells #[.string f0, .int .i64 f1, .string f2, .int .i64 f3, .int .i64 sn, .int .i64 sd, .int .i64 on, .int .i64 od, .string f8] 34) (.cells #[.int .i64 0, .int .i64 0] 29)) (ds := []) #[false, false, false, false, false, false, false, false, false, false, false] (by kernel_rfl) rfl rfl (hB.step (below_drew (Below.refl _ _))) (fun hHeld => ?_)
  refine pure_ (i := 0) (N := some 11) (v := ?_) (a' := ?_) #[true, false, false, false, false, false, false, false, false, false, false] rfl rfl (by kernel_rfl) (fun _ _ _ h => h) (Or.inl ⟨by rfl, ?_⟩) ?_ ?_
  rotate_left
  · intro w'
    go_simp
    try with_reducible rfl
  rotate_left
  · simp only [Act.put, List.setIfInBounds_toArray, List.set_cons_zero, List.set_cons_succ, i64_w, i32_w]
    rfl
  refine pure_ (i := 1) (N := some 12) (v := ?_) (a' := ?_) #[true, true, false, false, false, false, false, false, false, false, false] rfl rfl (by kernel_rfl) (fun _ _ _ h => h) (Or.inl ⟨by rfl, ?_⟩) ?_ ?_
  rotate_left
  · intro w'
    go_simp
    try with_reducible rfl
  rotate_left
  · simp only [Act.put, List.setIfInBounds_toArray, List.set_cons_zero, List.set_cons_succ, i64_w, i32_w]
    rfl
  refine pure_ (i := 2) (N := some 13) (v := ?_) (a' := ?_) #[true, true, true, false, false, false, false, false, false, false, false] rfl rfl (by kernel_rfl) (fun _ _ _ h => h) (Or.inl ⟨by rfl, ?_⟩) ?_ ?_
  rotate_left
  · intro w'
    go_simp
    try with_reducible rfl
  rotate_left
  · simp only [Act.put, List.setIfInBounds_toArray, List.set_cons_zero, List.set_cons_succ, i64_w, i32_w]
    rfl
  refine pure_ (i := 3) (N := some 14) (v := ?_) (a' := ?_) #[true, true, true, true, false, false, false, false, false, false, false] rfl rfl (by kernel_rfl) (fun _ _ _ h => h) (Or.inl ⟨by rfl, ?_⟩) ?_ ?_
  rotate_left
  · intro w'
    go_simp
    try with_reducible rfl
  rotate_left
  · simp only [Act.put, List.setIfInBounds_toArray, List.set_cons_zero, List.set_cons_succ, i64_w, i32_w]
    rfl
  refine take_ (i := 4) (N := some 15) (v := ?_) (a' := ?_) #[true, true, true, true, true, false, false, false, false, false, false] rfl rfl (by kernel_rfl) (fun _ _ _ h => h) (Or.inl ⟨by rfl, ?_⟩) hHeld ?_ ?_
  rotate_left
  · rintro w' hh
    have s0 : w'.cell? ⟨w.heap.size, 0, none⟩ = some (.string f0) := blk_cell hh.b1 0
    have s1 : w'.cell? ⟨w.heap.size, 1, none⟩ = some (.int .i64 f1) := blk_cell hh.b1 1
    have s2 : w'.cell? ⟨w.heap.size, 2, none⟩ = some (.string f2) := blk_cell hh.b1 2
    have s3 : w'.cell? ⟨w.heap.size, 3, none⟩ = some (.int .i64 f3) := blk_cell hh.b1 3
    have s4 : w'.cell? ⟨w.heap.size, 4, none⟩ = some (.int .i64 sn) := blk_cell hh.b1 4
    have s5 : w'.cell? ⟨w.heap.size, 5, none⟩ = some (.int .i64 sd) := blk_cell hh.b1 5
    have s6 : w'.cell? ⟨w.heap.size, 6, none⟩ = some (.int .i64 on) := blk_cell hh.b1 6
    have s7 : w'.cell? ⟨w.heap.size, 7, none⟩ = some (.int .i64 od) := blk_cell hh.b1 7
    have s8 : w'.cell? ⟨w.heap.size, 8, none⟩ = some (.string f8) := blk_cell hh.b1 8
    go_simp
    with_reducible rfl
  rotate_left
  · simp only [Act.put, List.setIfInBounds_toArray, List.set_cons_zero, List.set_cons_succ, i64_w, i32_w]
    rfl
  refine pure_ (i := 6) (N := some 17) (v := ?_) (a' := ?_) #[true, true, true, true, true, false, true, false, false, false, false] rfl rfl (by kernel_rfl) (fun _ _ _ h => h) (Or.inl ⟨by rfl, ?_⟩) ?_ ?_
  rotate_left
  · intro w'
    go_simp
    try with_reducible rfl
  rotate_left
  · simp only [Act.put, List.setIfInBounds_toArray, List.set_cons_zero, List.set_cons_succ, i64_w, i32_w]
    rfl
  refine take_ (i := 7) (N := some 18) (v := ?_) (a' := ?_) #[true, true, true, true, true, false, true, true, false, false, false] rfl rfl (by kernel_rfl) (fun _ _ _ h => h) (Or.inl ⟨by rfl, ?_⟩) hHeld ?_ ?_
  rotate_left
  · rintro w' hh
    have s0 : w'.cell? ⟨w.heap.size, 0, none⟩ = some (.string f0) := blk_cell hh.b1 0
    have s1 : w'.cell? ⟨w.heap.size, 1, none⟩ = some (.int .i64 f1) := blk_cell hh.b1 1
    have s2 : w'.cell? ⟨w.heap.size, 2, none⟩ = some (.string f2) := blk_cell hh.b1 2
    have s3 : w'.cell? ⟨w.heap.size, 3, none⟩ = some (.int .i64 f3) := blk_cell hh.b1 3
    have s4 : w'.cell? ⟨w.heap.size, 4, none⟩ = some (.int .i64 sn) := blk_cell hh.b1 4
    have s5 : w'.cell? ⟨w.heap.size, 5, none⟩ = some (.int .i64 sd) := blk_cell hh.b1 5
    have s6 : w'.cell? ⟨w.heap.size, 6, none⟩ = some (.int .i64 on) := blk_cell hh.b1 6
    have s7 : w'.cell? ⟨w.heap.size, 7, none⟩ = some (.int .i64 od) := blk_cell hh.b1 7
    have s8 : w'.cell? ⟨w.heap.size, 8, none⟩ = some (.string f8) := blk_cell hh.b1 8
    go_simp
    with_reducible rfl
  rotate_left
  · simp only [Act.put, List.setIfInBounds_toArray, List.set_cons_zero, List.set_cons_succ, i64_w, i32_w]
    rfl
  refine join_ (σ := Nat) 1 #[true, true, true, true, true, true, true, true, true, true, false] (fun s => [(16, .agg #[.int .i64 r1, .int .i64 r2, .int .i64 r3]), (19, .agg #[.int .i64 q1, .int .i64 q2, .int .i64 q3]), (6, .pointer (some ⟨s, 0, none⟩))]) (fun s wx => (B2 w wx (.cells #[.string f0, .int .i64 f1, .string f2, .int .i64 f3, .int .i64 sn, .int .i64 sd, .int .i64 on, .int .i64 od, .string f8] 34) (.cells #[.int .i64 0, .int .i64 0] 29)) ∧ wx.heap[s]? = some (.cells #[.int .i64 0, .int .i64 0, .int .i64 0] 93 (0, 0)) ∧ w.heap.size + 2 ≤ s ∧ True) ?_ ?hall
  case hall =>
    intro hj_5_8_9
    refine join_ (σ := Nat) 2 #[true, true, true, true, true, true, true, true, true, false, false] (fun s => [(16, .agg #[.int .i64 r1, .int .i64 r2, .int .i64 r3]), (19, .agg #[.int .i64 q1, .int .i64 q2, .int .i64 q3])]) (fun s wx => (B2 w wx (.cells #[.string f0, .int .i64 f1, .string f2, .int .i64 f3, .int .i64 sn, .int .i64 sd, .int .i64 on, .int .i64 od, .string f8] 34) (.cells #[.int .i64 0, .int .i64 0] 29)) ∧ True) ?c_5_8 ?_
    case c_5_8 =>
      rintro p9 wN hF
      obtain ⟨hHeld, _⟩ := hF
      refine norm_ (a' := ?_) ?_ ?_
      rotate_left
      · simp only [putAll, Act.put, List.setIfInBounds_toArray, List.set_cons_zero, List.set_cons_succ, i64_w, i32_w]
        rfl
      refine one_ (i := 9) (N := some 6) #[true, true, true, true, true, true, true, true, true, true, false] rfl rfl (by kernel_rfl) (by decide) (fun K hK => ?_)
      refine box_step (by rfl) (N := 6) rfl (cs := #[.int .i64 0, .int .i64 0, .int .i64 0]) (t := 93) ?_ ?_
      · first
          | (go_simp; done)
          | (go_simp; rfl)
      intro p9 hp_ w_ hbox_ hB_
      have hS_ := (hHeld.step hB_)
      have hz_ := hHeld.size
      refine hK.out _ _ hS_ (fun hHeld_ => ?_)
      clear hK K
      exact norm_ (by rfl) (hj_5_8_9 (p9) w_ ⟨hS_, hbox_, by show w.heap.size + 2 ≤ p9; omega, trivial⟩)
    intro hj_5_8
    refine join_ (σ := Nat) 2 #[true, true, true, true, true, true, true, true, false, true, false] (fun s => [(16, .agg #[.int .i64 r1, .int .i64 r2, .int .i64 r3]), (6, .pointer (some ⟨s, 0, none⟩))]) (fun s wx => (B2 w wx (.cells #[.string f0, .int .i64 f1, .string f2, .int .i64 f3, .int .i64 sn, .int .i64 sd, .int .i64 on, .int .i64 od, .string f8] 34) (.cells #[.int .i64 0, .int .i64 0] 29)) ∧ wx.heap[s]? = some (.cells #[.int .i64 0, .int .i64 0, .int .i64 0] 93 (0, 0)) ∧ w.heap.size + 2 ≤ s ∧ True) ?c_5_9 ?_
    case c_5_9 =>
      rintro p9 wN hF
      obtain ⟨hHeld, hb9, hl9, _⟩ := hF
      replace hb9 : wN.heap[p9]? = some (.cells #[.int .i64 0, .int .i64 0, .int .i64 0] 93 (0, 0)) := hb9
      replace hl9 : w.heap.size + 2 ≤ p9 := hl9
      refine norm_ (a' := ?_) ?_ ?_
      rotate_left
      · simp only [putAll, Act.put, List.setIfInBounds_toArray, List.set_cons_zero, List.set_cons_succ, i64_w, i32_w]
        rfl
      refine one_ (i := 8) (N := some 19) #[true, true, true, true, true, true, true, true, true, true, false] rfl rfl (by kernel_rfl) (by decide) (fun K hK => ?_)
      refine goes_ Try.func54 (by kernel_rfl) rfl #[.agg #[.int .i64 r1, .int .i64 r2, .int .i64 r3], .agg #[.int .i64 on, .int .i64 od]] (by rfl) rfl rfl (by (try simp only [List.map_toArray, List.map_cons, List.map_nil]); first | done | rfl) ?_
      refine (HP.out _).mono ?_
      rintro e_ w_ ⟨rfl, hb_⟩
      refine ⟨_, rfl, ?_⟩
      have hS_ := (hHeld.step hb_)
      refine hK.out _ _ hS_ (fun hHeld_ => ?_)
      clear hK K
      exact norm_ (by rfl) (hj_5_8_9 (p9) w_ ⟨hS_, blk_below hb9 hb_, hl9, trivial⟩)
    intro hj_5_9
    refine join_ (σ := Nat) 3 #[true, true, true, true, true, true, true, true, false, false, false] (fun s => [(16, .agg #[.int .i64 r1, .int .i64 r2, .int .i64 r3])]) (fun s wx => (B2 w wx (.cells #[.string f0, .int .i64 f1, .string f2, .int .i64 f3, .int .i64 sn, .int .i64 sd, .int .i64 on, .int .i64 od, .string f8] 34) (.cells #[.int .i64 0, .int .i64 0] 29)) ∧ True) ?c_5 ?_
    case c_5 =>
      rintro p9 wN hF
      obtain ⟨hHeld, _⟩ := hF
      refine norm_ (a' := ?_) ?_ ?_
      rotate_left
      · simp only [putAll, Act.put, List.setIfInBounds_toArray, List.set_cons_zero, List.set_cons_succ, i64_w, i32_w]
        rfl
      refine two_ (i := 8) (j := 9) (Ni := some 19) (Nj := some 6) #[true, true, true, true, true, true, true, true, true, false, false] #[true, true, true, true, true, true, true, true, false, true, false] rfl rfl rfl rfl (by kernel_rfl) (by decide) (by decide) (fun K hK => ?_) (fun K hK => ?_)
      · refine goes_ Try.func54 (by kernel_rfl) rfl #[.agg #[.int .i64 r1, .int .i64 r2, .int .i64 r3], .agg #[.int .i64 on, .int .i64 od]] (by rfl) rfl rfl (by (try simp only [List.map_toArray, List.map_cons, List.map_nil]); first | done | rfl) ?_
        refine (HP.out _).mono ?_
        rintro e_ w_ ⟨rfl, hb_⟩
        refine ⟨_, rfl, ?_⟩
        have hS_ := (hHeld.step hb_)
        refine hK.out _ _ hS_ (fun hHeld_ => ?_)
        clear hK K
        exact norm_ (by rfl) (hj_5_8 (0) w_ ⟨hS_, trivial⟩)
      · refine box_step (by rfl) (N := 6) rfl (cs := #[.int .i64 0, .int .i64 0, .int .i64 0]) (t := 93) ?_ ?_
        · first
            | (go_simp; done)
            | (go_simp; rfl)
        intro p9 hp_ w_ hbox_ hB_
        have hS_ := (hHeld.step hB_)
        have hz_ := hHeld.size
        refine hK.out _ _ hS_ (fun hHeld_ => ?_)
        clear hK K
        exact norm_ (by rfl) (hj_5_9 (p9) w_ ⟨hS_, hbox_, by show w.heap.size + 2 ≤ p9; omega, trivial⟩)
    intro hj_5
    refine join_ (σ := Nat) 3 #[true, true, true, true, true, false, true, true, false, true, false] (fun s => [(6, .pointer (some ⟨s, 0, none⟩))]) (fun s wx => (B2 w wx (.cells #[.string f0, .int .i64 f1, .string f2, .int .i64 f3, .int .i64 sn, .int .i64 sd, .int .i64 on, .int .i64 od, .string f8] 34) (.cells #[.int .i64 0, .int .i64 0] 29)) ∧ wx.heap[s]? = some (.cells #[.int .i64 0, .int .i64 0, .int .i64 0] 93 (0, 0)) ∧ w.heap.size + 2 ≤ s ∧ True) ?c_9 ?_
    case c_9 =>
      rintro p9 wN hF
      obtain ⟨hHeld, hb9, hl9, _⟩ := hF
      replace hb9 : wN.heap[p9]? = some (.cells #[.int .i64 0, .int .i64 0, .int .i64 0] 93 (0, 0)) := hb9
      replace hl9 : w.heap.size + 2 ≤ p9 := hl9
      refine norm_ (a' := ?_) ?_ ?_
      rotate_left
      · simp only [putAll, Act.put, List.setIfInBounds_toArray, List.set_cons_zero, List.set_cons_succ, i64_w, i32_w]
        rfl
      refine one_ (i := 5) (N := some 16) #[true, true, true, true, true, true, true, true, false, true, false] rfl rfl (by kernel_rfl) (by decide) (fun K hK => ?_)
      refine goes_ Try.func53 (by kernel_rfl) rfl #[.agg #[.int .i64 raw, .int .i64 1, .int .i64 0], .agg #[.int .i64 sn, .int .i64 sd]] (by rfl) rfl rfl (by (try simp only [List.map_toArray, List.map_cons, List.map_nil]); first | done | rfl) ?_
      refine (HT.out _).mono ?_
      rintro e_ w_ ⟨rfl, hb_⟩
      refine ⟨_, rfl, ?_⟩
      have hS_ := (hHeld.step hb_)
      refine hK.out _ _ hS_ (fun hHeld_ => ?_)
      clear hK K
      exact norm_ (by rfl) (hj_5_9 (p9) w_ ⟨hS_, blk_below hb9 hb_, hl9, trivial⟩)
    intro hj_9
    refine two_ (i := 5) (j := 9) (Ni := some 16) (Nj := some 6) #[true, true, true, true, true, true, true, true, false, false, false] #[true, true, true, true, true, false, true, true, false, true, false] rfl rfl rfl rfl (by kernel_rfl) (by decide) (by decide) (fun K hK => ?_) (fun K hK => ?_)
    · refine goes_ Try.func53 (by kernel_rfl) rfl #[.agg #[.int .i64 raw, .int .i64 1, .int .i64 0], .agg #[.int .i64 sn, .int .i64 sd]] (by rfl) rfl rfl (by (try simp only [List.map_toArray, List.map_cons, List.map_nil]); first | done | rfl) ?_
      refine (HT.out _).mono ?_
      rintro e_ w_ ⟨rfl, hb_⟩
      refine ⟨_, rfl, ?_⟩
      have hS_ := (hHeld.step hb_)
      refine hK.out _ _ hS_ (fun hHeld_ => ?_)
      clear hK K
      exact norm_ (by rfl) (hj_5 (0) w_ ⟨hS_, trivial⟩)
    · refine box_step (by rfl) (N := 6) rfl (cs := #[.int .i64 0, .int .i64 0, .int .i64 0]) (t := 93) ?_ ?_
      · first
          | (go_simp; done)
          | (go_simp; rfl)
      intro p9 hp_ w_ hbox_ hB_
      have hS_ := (hHeld.step hB_)
      have hz_ := hHeld.size
      refine hK.out _ _ hS_ (fun hHeld_ => ?_)
      clear hK K
      exact norm_ (by rfl) (hj_9 (p9) w_ ⟨hS_, hbox_, by show w.heap.size + 2 ≤ p9; omega, trivial⟩)
  clear hHeld
  rintro p9 wN hF
  obtain ⟨hHeld, hb9, hl9, _⟩ := hF
  replace hb9 : wN.heap[p9]? = some (.cells #[.int .i64 0, .int .i64 0, .int .i64 0] 93 (0, 0)) := hb9
  replace hl9 : w.heap.size + 2 ≤ p9 := hl9
  refine norm_ (a' := ?_) ?_ ?_
  rotate_left
  · simp only [putAll, Act.put, List.setIfInBounds_toArray, List.set_cons_zero, List.set_cons_succ, i64_w, i32_w]
    rfl
  have c0 : wN.cell? ⟨p9, 0, none⟩ = some (.int .i64 0) := blk_cell hb9 0
  have cf0 : wN.frozen? ⟨p9, 0, none⟩ = false := blk_frozen hb9 0
  have c1 : wN.cell? ⟨p9, 1, none⟩ = some (.int .i64 0) := blk_cell hb9 1
  have cf1 : wN.frozen? ⟨p9, 1, none⟩ = false := blk_frozen hb9 1
  have c2 : wN.cell? ⟨p9, 2, none⟩ = some (.int .i64 0) := blk_cell hb9 2
  have cf2 : wN.frozen? ⟨p9, 2, none⟩ = false := blk_frozen hb9 2
  refine one_ (i := 10) (N := none) #[true, true, true, true, true, true, true, true, true, true, true] rfl rfl (by kernel_rfl) (by decide) (fun K hK => ?_)
  refine skip_ (w1 := ((wN.setCell ⟨p9, 0, none⟩ (.int .i64 q1)).setCell ⟨p9, 1, none⟩ (.int .i64 q2)).setCell ⟨p9, 2, none⟩ (.int .i64 q3)) (by rfl) rfl ?_ ?_
  · first
    | (go_simp; done)
    | (go_simp; rfl)
  refine hK.out _ _ (((hHeld.far (p := ⟨p9, 0, none⟩) hl9 (.int .i64 q1)).far (p := ⟨p9, 1, none⟩) hl9 (.int .i64 q2)).far (p := ⟨p9, 2, none⟩) hl9 (.int .i64 q3)) (fun hHeld => ?_)
  clear hK K
  refine norm_ (a' := ?_) ?_ ?_
  rotate_left
  · rfl
  refine done_ (by kernel_rfl) ?_
  have kx := blk_set (blk_set (blk_set hb9 0 (.int .i64 q1)) 1 (.int .i64 q2)) 2 (.int .i64 q3)
  clear hB
  obtain ⟨w4, hw4⟩ : ∃ w4, w4 = ((wN.setCell ⟨p9, 0, none⟩ (.int .i64 q1)).setCell ⟨p9, 1, none⟩ (.int .i64 q2)).setCell ⟨p9, 2, none⟩ (.int .i64 q3) := ⟨_, rfl⟩
  rw [← hw4] at kx hHeld ⊢
  have hB := hHeld
  clear hHeld hw4 hb9 c0 c1 c2 cf0 cf1 cf2
  have hn9 : w.heap.size + 1 ≠ p9 := by omega
  have hn9' : p9 ≠ w.heap.size + 1 := by omega
  go_wp2_with fail
  have hx := hB.b2
  have c0 : w4.cell? ⟨p9, 0, none⟩ = some (.int .i64 q1) := blk_cell kx 0
  have c1 : w4.cell? ⟨p9, 1, none⟩ = some (.int .i64 q2) := blk_cell kx 1
  have c2 : w4.cell? ⟨p9, 2, none⟩ = some (.int .i64 q3) := blk_cell kx 2
  have d0 : w4.cell? ⟨w.heap.size + 1, 0, none⟩ = some (.int .i64 0) := blk_cell hx 0
  have df0 : w4.frozen? ⟨w.heap.size + 1, 0, none⟩ = false := blk_frozen hx 0
  have d1 : w4.cell? ⟨w.heap.size + 1, 1, none⟩ = some (.int .i64 0) := blk_cell hx 1
  have df1 : w4.frozen? ⟨w.heap.size + 1, 1, none⟩ = false := blk_frozen hx 1
  go_region
  have k7 := blk_drew (blk_set (blk_set hx 0 (.int .i64 q1)) 1 (.int .i64 q2))
  have hB7 := below_drew1 ((hB.be.setCell (p := ⟨w.heap.size + 1, 0, none⟩) (by show w.heap.size ≤ w.heap.size + 1; omega) (.int .i64 q1)).setCell (p := ⟨w.heap.size + 1, 1, none⟩) (by show w.heap.size ≤ w.heap.size + 1; omega) (.int .i64 q2))
  obtain ⟨w7, hw7⟩ : ∃ w7, w7 = ((w4.setCell ⟨w.heap.size + 1, 0, none⟩ (.int .i64 q1)).setCell ⟨w.heap.size + 1, 1, none⟩ (.int .i64 q2)).drew := ⟨_, rfl⟩
  rw [← hw7] at k7 hB7
  try rw [← hw7]
  clear hw7
  have s0 : w7.cell? ⟨w.heap.size + 1, 0, none⟩ = some (.int .i64 q1) := blk_cell k7 0
  have s1 : w7.cell? ⟨w.heap.size + 1, 1, none⟩ = some (.int .i64 q2) := blk_cell k7 1
  go_wp2_with fail
  refine bodyPost_ret (by simp [results, Try.results22, go_sem, s0, s1]; try rfl) rfl ?_
  exact ⟨rfl, hB7⟩

theorem value_calls (f0 : ByteArray) (f1 : Int) (f2 : ByteArray) (f3 sn sd on od : Int) (f8 : ByteArray) (raw : Int) (hsn : I64 sn) (hsd : I64 sd) (hon : I64 on) (hod : I64 od) (hraw : I64 raw) (w : World) :
    Calls Try.prog 22 #[.agg #[.string f0, .int .i64 f1, .string f2, .int .i64 f3, .int .i64 sn, .int .i64 sd, .int .i64 on, .int .i64 od, .string f8], .int .i64 raw] w fun e w' => e = ans (valueR sn sd on od raw) ∧ Below w.heap.size w w' := by
  unfold valueR
  by_cases hr : Rt sn sd ∧ Rt on od
  · rw [if_pos hr]
    exact value_right f0 f1 f2 f3 sn sd on od f8 raw hsn hsd hon hod hraw hr w
  · rw [if_neg hr]
    exact value_wrong f0 f1 f2 f3 sn sd on od f8 raw hsn hsd hon hod hr w
end Go.Proofs.Ytcldlfhnmkogeaa.Scale

import Derived.Test.YtcldlfhnmkogeaaRatMore
/- The value of a field (scale.Value), walked. -/
set_option linter.unusedVariables false
set_option linter.unusedSimpArgs false
namespace Go.Proofs.Ytcldlfhnmkogeaa.Scale
open Go.RowKit Go.Proofs.YtcldlfhnmkogeaaW.PrintWords Go.Proofs.YtcldlfhnmkogeaaW.PrintLast Go.Proofs.Ytcldlfhnmkogeaa.Nats Go.Proofs.Ytcldlfhnmkogeaa.HeapKit Go.Proofs.Ytcldlfhnmkogeaa.PAdd Go.Proofs.Ytcldlfhnmkogeaa.RatPlain
/-- One more step of a value on its way. -/
def timesW (r : Int × Int × Int) (bn bd : Int) : Int × Int × Int := if r.2.2 = 0 then told (Rt r.1 r.2.1 ∧ Rt bn bd) (mulR r.1 r.2.1 bn bd) else r
def plusW (r : Int × Int × Int) (bn bd : Int) : Int × Int × Int := if r.2.2 = 0 then told (Rt r.1 r.2.1 ∧ Rt bn bd) (addR r.1 r.2.1 bn bd) else r
theorem low_I64 {n d : Int} (hn : I64 n) (hd : I64 d) (h0 : 0 < d) : I64 (low n d).1 ∧ I64 (low n d).2 := ⟨hn.tdiv (gcd_pos h0), hd.tdiv (gcd_pos h0)⟩
/-- A way within 64 bits. -/
def In (r : Int × Int × Int) : Prop := I64 r.1 ∧ I64 r.2.1
theorem told_In {P : Prop} [Decidable P] {r : Option (Int × Int)} (h : P → ∀ p, r = some p → I64 p.1 ∧ I64 p.2) : In (told P r) := by
  have h0 : I64 0 := by decide
  unfold told
  split
  · rename_i hp
    cases r with
    | none => exact ⟨h0, h0⟩
    | some p => exact h hp p rfl
  · exact ⟨h0, h0⟩
theorem mul_In {an ad bn bd : Int} (ra : Rt an ad) (rb : Rt bn bd) : ∀ p, mulR an ad bn bd = some p → I64 p.1 ∧ I64 p.2 := by
  intro p h
  simp only [mulR] at h
  split at h
  · rename_i hi
    cases h
    exact low_I64 hi.1 hi.2 (Int.mul_pos (exact_pos rb.1 (dvd_right _ _) (gcd_pos rb.1)) (exact_pos ra.1 (dvd_right _ _) (gcd_pos ra.1)))
  · cases h
theorem add_In {an ad bn bd : Int} (ra : Rt an ad) (rb : Rt bn bd) : ∀ p, addR an ad bn bd = some p → I64 p.1 ∧ I64 p.2 := by
  intro p h
  simp only [addR] at h
  split at h
  · rename_i hi
    cases h
    exact low_I64 hi.2.2.1 hi.2.2.2 (Int.mul_pos ra.1 (exact_pos rb.1 (dvd_right _ _) (gcd_pos rb.1)))
  · cases h
theorem timesW_In {r : Int × Int × Int} {bn bd : Int} (h : In r) : In (timesW r bn bd) := by
  unfold timesW
  split
  · exact told_In (fun hp => mul_In hp.1 hp.2)
  · exact h
theorem plusW_In {r : Int × Int × Int} {bn bd : Int} (h : In r) : In (plusW r bn bd) := by
  unfold plusW
  split
  · exact told_In (fun hp => add_In hp.1 hp.2)
  · exact h
theorem times_calls {r1 r2 r3 bn bd : Int} (h : In (r1, r2, r3)) (h3 : I64 bn) (h4 : I64 bd) (w : World) :
    Calls Try.prog 53 #[.agg #[.int .i64 r1, .int .i64 r2, .int .i64 r3], .agg #[.int .i64 bn, .int .i64 bd]] w fun x w' => x = way (timesW (r1, r2, r3) bn bd) ∧ Below w.heap.size w w' := by
  by_cases he : r3 = 0
  · subst he
    exact times_on h.1 h.2 h3 h4 w
  · have := times_off (n := r1) (d := r2) (bn := bn) (bd := bd) he w
    unfold timesW
    rw [if_neg (by exact he)]
    exact this
theorem plus_calls {r1 r2 r3 bn bd : Int} (h : In (r1, r2, r3)) (h3 : I64 bn) (h4 : I64 bd) (w : World) :
    Calls Try.prog 54 #[.agg #[.int .i64 r1, .int .i64 r2, .int .i64 r3], .agg #[.int .i64 bn, .int .i64 bd]] w fun x w' => x = way (plusW (r1, r2, r3) bn bd) ∧ Below w.heap.size w w' := by
  by_cases he : r3 = 0
  · subst he
    exact plus_on h.1 h.2 h3 h4 w
  · have := plus_off (n := r1) (d := r2) (bn := bn) (bd := bd) he w
    unfold plusW
    rw [if_neg (by exact he)]
    exact this
theorem right_calls {n d : Int} (hn : I64 n) (hd : I64 d) (w : World) : Calls Try.prog 55 #[.agg #[.int .i64 n, .int .i64 d]] w fun e w' => e = .returned (.bool (decide (Rt n d))) ∧ Below w.heap.size w w' :=
  ratio_Right.calls (big + 1) n d _ _ (right_eq hn hd (by omega))

set_option maxRecDepth 100000 in
set_option maxHeartbeats 4000000 in
theorem fright_calls (f0 : ByteArray) (f1 : Int) (f2 : ByteArray) (f3 sn sd on od : Int) (f8 : ByteArray) (hsn : I64 sn) (hsd : I64 sd) (hon : I64 on) (hod : I64 od) (w : World) :
    Calls Try.prog 52 #[.agg #[.string f0, .int .i64 f1, .string f2, .int .i64 f3, .int .i64 sn, .int .i64 sd, .int .i64 on, .int .i64 od, .string f8]] w fun e w' => e = .returned (.bool (decide (Rt sn sd ∧ Rt on od))) ∧ Below w.heap.size w w' := by
  have hr1 := fun w => right_calls hsn hsd w
  have hr2 := fun w => right_calls hon hod w
  have hP : decide (Rt sn sd ∧ Rt on od) = (decide (Rt sn sd) && decide (Rt on od)) := by simp
  rw [hP]
  obtain ⟨r1, e1⟩ : ∃ r1, decide (Rt sn sd) = r1 := ⟨_, rfl⟩
  obtain ⟨r2, e2⟩ : ∃ r2, decide (Rt on od) = r2 := ⟨_, rfl⟩
  simp only [e1] at hr1
  simp only [e2] at hr2
  rw [e1, e2]
  clear hP e1 e2
  have HR1 := Lib.hid hr1
  have HR2 := Lib.hid hr2
  clear hr1 hr2
  have hB := b1_start w (.cells #[.string f0, .int .i64 f1, .string f2, .int .i64 f3, .int .i64 sn, .int .i64 sd, .int .i64 on, .int .i64 od, .string f8] 34)
  go_enter Try.func52, Try.ntmps52
  go_wp2_with fail
  refine (HR1.out _).mono ?_
  rintro e w1 ⟨rfl, hb1⟩
  replace hB := hB.step hb1
  clear hb1
  have a0 : w1.cell? ⟨w.heap.size, 0, none⟩ = some (.string f0) := blk_cell hB.b1 0
  have a1 : w1.cell? ⟨w.heap.size, 1, none⟩ = some (.int .i64 f1) := blk_cell hB.b1 1
  have a2 : w1.cell? ⟨w.heap.size, 2, none⟩ = some (.string f2) := blk_cell hB.b1 2
  have a3 : w1.cell? ⟨w.heap.size, 3, none⟩ = some (.int .i64 f3) := blk_cell hB.b1 3
  have a4 : w1.cell? ⟨w.heap.size, 4, none⟩ = some (.int .i64 sn) := blk_cell hB.b1 4
  have a5 : w1.cell? ⟨w.heap.size, 5, none⟩ = some (.int .i64 sd) := blk_cell hB.b1 5
  have a6 : w1.cell? ⟨w.heap.size, 6, none⟩ = some (.int .i64 on) := blk_cell hB.b1 6
  have a7 : w1.cell? ⟨w.heap.size, 7, none⟩ = some (.int .i64 od) := blk_cell hB.b1 7
  have a8 : w1.cell? ⟨w.heap.size, 8, none⟩ = some (.string f8) := blk_cell hB.b1 8
  cases r1 with
  | false =>
    go_wp2_with fail
    go_ret
    exact ⟨by simp, hB.be⟩
  | true =>
    go_wp2_with fail
    refine (HR2.out _).mono ?_
    rintro e w2 ⟨rfl, hb2⟩
    replace hB := hB.step hb2
    clear hb2
    go_wp2_with fail
    go_ret
    exact ⟨by simp, hB.be⟩

/-- The value of a raw number, what went wrong. -/
def valueR (sn sd on od raw : Int) : Int × Int × Int := if Rt sn sd ∧ Rt on od then plusW (timesW (raw, 1, 0) sn sd) on od else (0, 0, 1)

set_option maxRecDepth 100000 in
set_option maxHeartbeats 4000000 in
theorem value_wrong (f0 : ByteArray) (f1 : Int) (f2 : ByteArray) (f3 sn sd on od : Int) (f8 : ByteArray) (raw : Int) (hsn : I64 sn) (hsd : I64 sd) (hon : I64 on) (hod : I64 od) (hr : ¬ (Rt sn sd ∧ Rt on od)) (w : World) :
    Calls Try.prog 22 #[.agg #[.string f0, .int .i64 f1, .string f2, .int .i64 f3, .int .i64 sn, .int .i64 sd, .int .i64 on, .int .i64 od, .string f8], .int .i64 raw] w fun e w' => e = ans (0, 0, 1) ∧ Below w.heap.size w w' := by
  have hc := fun w => fright_calls f0 f1 f2 f3 sn sd on od f8 hsn hsd hon hod w
  simp only [decide_eq_false hr] at hc
  have HC := Lib.hid hc
  clear hc
  go_enter Try.func22, Try.ntmps22
  go_wp2_with fail
  refine (HC.out _).mono ?_
  rintro e w1 ⟨rfl, hb1⟩
  have hB := (b2_start w (.cells #[.string f0, .int .i64 f1, .string f2, .int .i64 f3, .int .i64 sn, .int .i64 sd, .int .i64 on, .int .i64 od, .string f8] 34) (.cells #[.int .i64 0, .int .i64 0] 29)).step hb1
  clear hb1
  have hx_ := hB.b2
  have d_0 : w1.cell? ⟨w.heap.size + 1, 0, none⟩ = some (.int .i64 0) := blk_cell hx_ 0
  have df_0 : w1.frozen? ⟨w.heap.size + 1, 0, none⟩ = false := blk_frozen hx_ 0
  have d_1 : w1.cell? ⟨w.heap.size + 1, 1, none⟩ = some (.int .i64 0) := blk_cell hx_ 1
  have df_1 : w1.frozen? ⟨w.heap.size + 1, 1, none⟩ = false := blk_frozen hx_ 1
  go_wp2_with fail
  have k_ := (blk_set (blk_set hx_ 0 (.int .i64 0)) 1 (.int .i64 0))
  have hB_ := (Below.setCell (Below.setCell hB.be (p := ⟨w.heap.size + 1, 0, none⟩) ((by show w.heap.size ≤ w.heap.size + 1; omega)) (.int .i64 0)) (p := ⟨w.heap.size + 1, 1, none⟩) ((by show w.heap.size ≤ w.heap.size + 1; omega)) (.int .i64 0))
  obtain ⟨w_, hw_⟩ : ∃ w_, w_ = (World.setCell (World.setCell w1 ⟨w.heap.size + 1, 0, none⟩ (.int .i64 0)) ⟨w.heap.size + 1, 1, none⟩ (.int .i64 0)) := ⟨_, rfl⟩
  rw [← hw_] at k_ hB_
  try rw [← hw_]
  clear hw_
  have s_0 : w_.cell? ⟨w.heap.size + 1, 0, none⟩ = some (.int .i64 0) := blk_cell k_ 0
  have s_1 : w_.cell? ⟨w.heap.size + 1, 1, none⟩ = some (.int .i64 0) := blk_cell k_ 1
  refine bodyPost_ret (by simp [results, Try.results22, go_sem, s_0, s_1]; try rfl) rfl ?_
  exact ⟨rfl, hB_⟩

set_option maxRecDepth 100000 in
set_option maxHeartbeats 4000000 in
theorem value_right (f0 : ByteArray) (f1 : Int) (f2 : ByteArray) (f3 sn sd on od : Int) (f8 : ByteArray) (raw : Int) (hsn : I64 sn) (hsd : I64 sd) (hon : I64 on) (hod : I64 od) (hraw : I64 raw) (hr : Rt sn sd ∧ Rt on od) (w : World) :
    Calls Try.prog 22 #[.agg #[.string f0, .int .i64 f1, .string f2, .int .i64 f3, .int .i64 sn, .int .i64 sd, .int .i64 on, .int .i64 od, .string f8], .int .i64 raw] w fun e w' => e = ans (plusW (timesW (raw, 1, 0) sn sd) on od) ∧ Below w.heap.size w w' := by
  have hc := fun w => fright_calls f0 f1 f2 f3 sn sd on od f8 hsn hsd hon hod w
  simp only [decide_eq_true hr] at hc
  have i0 : In (raw, 1, 0) := ⟨hraw, (by decide : I64 1)⟩
  have i1 : In (timesW (raw, 1, 0) sn sd) := timesW_In i0
  have ht := fun w => times_calls (r1 := raw) (r2 := 1) (r3 := 0) i0 hsn hsd w
  obtain ⟨⟨r1, r2, r3⟩, hr1⟩ : ∃ r, timesW (raw, 1, 0) sn sd = r := ⟨_, rfl⟩
  rw [hr1] at i1
  simp only [hr1] at ht
  have hp := fun w => plus_calls (r1 := r1) (r2 := r2) (r3 := r3) i1 hon hod w
  rw [hr1]
  obtain ⟨⟨q1, q2, q3⟩, hq1⟩ : ∃ r, plusW (r1, r2, r3) on od = r := ⟨_, rfl⟩
  simp only [hq1] at hp
  rw [hq1]
  clear hr1 hq1
  simp only [way] at ht hp
  have HC := Lib.hid hc
  have HT := Lib.hid ht
  have HP := Lib.hid hp
  clear hc ht hp
  go_enter Try.func22, Try.ntmps22
  go_wp2_with fail
  refine (HC.out _).mono ?_
  rintro e w1 ⟨rfl, hb1⟩
  have hB := (b2_start w (.cells #[.string f0, .int .i64 f1, .string f2, .int .i64 f3, .int .i64 sn, .int .i64 sd, .int .i64 on, .int .i64 od, .string f8] 34) (.cells #[.int .i64 0, .int .i64 0] 29)).step hb1
  clear hb1
  go_wp2_with fail
  refine start_ (n := 11) (S := fun wx => B2 w wx (.cells #[.string f0, .int .i64 f1, .string f2, .int .i64 f3, .int .i64 sn, .int .i64 sd, .int .i64 on, .int .i64 od, .string f8] 34) (.cells #[.int .i64 0, .int .i64 0] 29)) (ds := []) #[false, false, false, false, false, false, false, false, false, false, false] (by kernel_rfl) rfl rfl (hB.step (below_drew (Below.refl _ _))) (fun hHeld => ?_)
  refine pure_ (i := 0) (N := some 11) (v := ?_) (a' := ?_) #[true, false, false, false, false, false, false, false, false, false, false] rfl rfl (by kernel_rfl) (fun _ _ _ h => h) (Or.inl ⟨by rfl, ?_⟩) ?_ ?_
  rotate_left
  · intro w'
    go_simp
    try with_reducible rfl
  rotate_left
  · simp only [Act.put, List.setIfInBounds_toArray, List.set_cons_zero, List.set_cons_succ, i64_w, i32_w]
    rfl
  refine pure_ (i := 1) (N := some 12) (v := ?_) (a' := ?_) #[true, true, false, false, false, false, false, false, false, false, false] rfl rfl (by kernel_rfl) (fun _ _ _ h => h) (Or.inl ⟨by rfl, ?_⟩) ?_ ?_
  rotate_left
  · intro w'
    go_simp
    try with_reducible rfl
  rotate_left
  · simp only [Act.put, List.setIfInBounds_toArray, List.set_cons_zero, List.set_cons_succ, i64_w, i32_w]
    rfl
  refine pure_ (i := 2) (N := some 13) (v := ?_) (a' := ?_) #[true, true, true, false, false, false, false, false, false, false, false] rfl rfl (by kernel_rfl) (fun _ _ _ h => h) (Or.inl ⟨by rfl, ?_⟩) ?_ ?_
  rotate_left
  · intro w'
    go_simp
    try with_reducible rfl
  rotate_left
  · simp only [Act.put, List.setIfInBounds_toArray, List.set_cons_zero, List.set_cons_succ, i64_w, i32_w]
    rfl
  refine pure_ (i := 3) (N := some 14) (v := ?_) (a' := ?_) #[true, true, true, true, false, false, false, false, false, false, false] rfl rfl (by kernel_rfl) (fun _ _ _ h => h) (Or.inl ⟨by rfl, ?_⟩) ?_ ?_
  rotate_left
  · intro w'
    go_simp
    try with_reducible rfl
  rotate_left
  · simp only [Act.put, List.setIfInBounds_toArray, List.set_cons_zero, List.set_cons_succ, i64_w, i32_w]
    rfl
  refine take_ (i := 4) (N := some 15) (v := ?_) (a' := ?_) #[true, true, true, true, true, false, false, false, false, false, false] rfl rfl (by kernel_rfl) (fun _ _ _ h => h) (Or.inl ⟨by rfl, ?_⟩) hHeld ?_ ?_
  rotate_left
  · rintro w' hh
    have s0 : w'.cell? ⟨w.heap.size, 0, none⟩ = some (.string f0) := blk_cell hh.b1 0
    have s1 : w'.cell? ⟨w.heap.size, 1, none⟩ = some (.int .i64 f1) := blk_cell hh.b1 1
    have s2 : w'.cell? ⟨w.heap.size, 2, none⟩ = some (.string f2) := blk_cell hh.b1 2
    have s3 : w'.cell? ⟨w.heap.size, 3, none⟩ = some (.int .i64 f3) := blk_cell hh.b1 3
    have s4 : w'.cell? ⟨w.heap.size, 4, none⟩ = some (.int .i64 sn) := blk_cell hh.b1 4
    have s5 : w'.cell? ⟨w.heap.size, 5, none⟩ = some (.int .i64 sd) := blk_cell hh.b1 5
    have s6 : w'.cell? ⟨w.heap.size, 6, none⟩ = some (.int .i64 on) := blk_cell hh.b1 6
    have s7 : w'.cell? ⟨w.heap.size, 7, none⟩ = some (.int .i64 od) := blk_cell hh.b1 7
    have s8 : w'.cell? ⟨w.heap.size, 8, none⟩ = some (.string f8) := blk_cell hh.b1 8
    go_simp
    with_reducible rfl
  rotate_left
  · simp only [Act.put, List.setIfInBounds_toArray, List.set_cons_zero, List.set_cons_succ, i64_w, i32_w]
    rfl
  refine pure_ (i := 6) (N := some 17) (v := ?_) (a' := ?_) #[true, true, true, true, true, false, true, false, false, false, false] rfl rfl (by kernel_rfl) (fun _ _ _ h => h) (Or.inl ⟨by rfl, ?_⟩) ?_ ?_
  rotate_left
  · intro w'
    go_simp
    try with_reducible rfl
  rotate_left
  · simp only [Act.put, List.setIfInBounds_toArray, List.set_cons_zero, List.set_cons_succ, i64_w, i32_w]
    rfl
  refine take_ (i := 7) (N := some 18) (v := ?_) (a' := ?_) #[true, true, true, true, true, false, true, true, false, false, false] rfl rfl (by kernel_rfl) (fun _ _ _ h => h) (Or.inl ⟨by rfl, ?_⟩) hHeld ?_ ?_
  rotate_left
  · rintro w' hh
    have s0 : w'.cell? ⟨w.heap.size, 0, none⟩ = some (.string f0) := blk_cell hh.b1 0
    have s1 : w'.cell? ⟨w.heap.size, 1, none⟩ = some (.int .i64 f1) := blk_cell hh.b1 1
    have s2 : w'.cell? ⟨w.heap.size, 2, none⟩ = some (.string f2) := blk_cell hh.b1 2
    have s3 : w'.cell? ⟨w.heap.size, 3, none⟩ = some (.int .i64 f3) := blk_cell hh.b1 3
    have s4 : w'.cell? ⟨w.heap.size, 4, none⟩ = some (.int .i64 sn) := blk_cell hh.b1 4
    have s5 : w'.cell? ⟨w.heap.size, 5, none⟩ = some (.int .i64 sd) := blk_cell hh.b1 5
    have s6 : w'.cell? ⟨w.heap.size, 6, none⟩ = some (.int .i64 on) := blk_cell hh.b1 6
    have s7 : w'.cell? ⟨w.heap.size, 7, none⟩ = some (.int .i64 od) := blk_cell hh.b1 7
    have s8 : w'.cell? ⟨w.heap.size, 8, none⟩ = some (.string f8) := blk_cell hh.b1 8
    go_simp
    with_reducible rfl
  rotate_left
  · simp only [Act.put, List.setIfInBounds_toArray, List.set_cons_zero, List.set_cons_succ, i64_w, i32_w]
    rfl
  refine join_ (σ := Nat) 1 #[true, true, true, true, true, true, true, true, true, true, false] (fun s => [(16, .agg #[.int .i64 r1, .int .i64 r2, .int .i64 r3]), (19, .agg #[.int .i64 q1, .int .i64 q2, .int .i64 q3]), (6, .pointer (some ⟨s, 0, none⟩))]) (fun s wx => (B2 w wx (.cells #[.string f0, .int .i64 f1, .string f2, .int .i64 f3, .int .i64 sn, .int .i64 sd, .int .i64 on, .int .i64 od, .string f8] 34) (.cells #[.int .i64 0, .int .i64 0] 29)) ∧ wx.heap[s]? = some (.cells #[.int .i64 0, .int .i64 0, .int .i64 0] 93 (0, 0)) ∧ w.heap.size + 2 ≤ s ∧ True) ?_ ?hall
  case hall =>
    intro hj_5_8_9
    refine join_ (σ := Nat) 2 #[true, true, true, true, true, true, true, true, true, false, false] (fun s => [(16, .agg #[.int .i64 r1, .int .i64 r2, .int .i64 r3]), (19, .agg #[.int .i64 q1, .int .i64 q2, .int .i64 q3])]) (fun s wx => (B2 w wx (.cells #[.string f0, .int .i64 f1, .string f2, .int .i64 f3, .int .i64 sn, .int .i64 sd, .int .i64 on, .int .i64 od, .string f8] 34) (.cells #[.int .i64 0, .int .i64 0] 29)) ∧ True) ?c_5_8 ?_
    case c_5_8 =>
      rintro p9 wN hF
      obtain ⟨hHeld, _⟩ := hF
      refine norm_ (a' := ?_) ?_ ?_
      rotate_left
      · simp only [putAll, Act.put, List.setIfInBounds_toArray, List.set_cons_zero, List.set_cons_succ, i64_w, i32_w]
        rfl
      refine one_ (i := 9) (N := some 6) #[true, true, true, true, true, true, true, true, true, true, false] rfl rfl (by kernel_rfl) (by decide) (fun K hK => ?_)
      refine box_step (by rfl) (N := 6) rfl (cs := #[.int .i64 0, .int .i64 0, .int .i64 0]) (t := 93) ?_ ?_
      · first
          | (go_simp; done)
          | (go_simp; rfl)
      intro p9 hp_ w_ hbox_ hB_
      have hS_ := (hHeld.step hB_)
      have hz_ := hHeld.size
      refine hK.out _ _ hS_ (fun hHeld_ => ?_)
      clear hK K
      exact norm_ (by rfl) (hj_5_8_9 (p9) w_ ⟨hS_, hbox_, by show w.heap.size + 2 ≤ p9; omega, trivial⟩)
    intro hj_5_8
    refine join_ (σ := Nat) 2 #[true, true, true, true, true, true, true, true, false, true, false] (fun s => [(16, .agg #[.int .i64 r1, .int .i64 r2, .int .i64 r3]), (6, .pointer (some ⟨s, 0, none⟩))]) (fun s wx => (B2 w wx (.cells #[.string f0, .int .i64 f1, .string f2, .int .i64 f3, .int .i64 sn, .int .i64 sd, .int .i64 on, .int .i64 od, .string f8] 34) (.cells #[.int .i64 0, .int .i64 0] 29)) ∧ wx.heap[s]? = some (.cells #[.int .i64 0, .int .i64 0, .int .i64 0] 93 (0, 0)) ∧ w.heap.size + 2 ≤ s ∧ True) ?c_5_9 ?_
    case c_5_9 =>
      rintro p9 wN hF
      obtain ⟨hHeld, hb9, hl9, _⟩ := hF
      replace hb9 : wN.heap[p9]? = some (.cells #[.int .i64 0, .int .i64 0, .int .i64 0] 93 (0, 0)) := hb9
      replace hl9 : w.heap.size + 2 ≤ p9 := hl9
      refine norm_ (a' := ?_) ?_ ?_
      rotate_left
      · simp only [putAll, Act.put, List.setIfInBounds_toArray, List.set_cons_zero, List.set_cons_succ, i64_w, i32_w]
        rfl
      refine one_ (i := 8) (N := some 19) #[true, true, true, true, true, true, true, true, true, true, false] rfl rfl (by kernel_rfl) (by decide) (fun K hK => ?_)
      refine goes_ Try.func54 (by kernel_rfl) rfl #[.agg #[.int .i64 r1, .int .i64 r2, .int .i64 r3], .agg #[.int .i64 on, .int .i64 od]] (by rfl) rfl rfl (by (try simp only [List.map_toArray, List.map_cons, List.map_nil]); first | done | rfl) ?_
      refine (HP.out _).mono ?_
      rintro e_ w_ ⟨rfl, hb_⟩
      refine ⟨_, rfl, ?_⟩
      have hS_ := (hHeld.step hb_)
      refine hK.out _ _ hS_ (fun hHeld_ => ?_)
      clear hK K
      exact norm_ (by rfl) (hj_5_8_9 (p9) w_ ⟨hS_, blk_below hb9 hb_, hl9, trivial⟩)
    intro hj_5_9
    refine join_ (σ := Nat) 3 #[true, true, true, true, true, true, true, true, false, false, false] (fun s => [(16, .agg #[.int .i64 r1, .int .i64 r2, .int .i64 r3])]) (fun s wx => (B2 w wx (.cells #[.string f0, .int .i64 f1, .string f2, .int .i64 f3, .int .i64 sn, .int .i64 sd, .int .i64 on, .int .i64 od, .string f8] 34) (.cells #[.int .i64 0, .int .i64 0] 29)) ∧ True) ?c_5 ?_
    case c_5 =>
      rintro p9 wN hF
      obtain ⟨hHeld, _⟩ := hF
      refine norm_ (a' := ?_) ?_ ?_
      rotate_left
      · simp only [putAll, Act.put, List.setIfInBounds_toArray, List.set_cons_zero, List.set_cons_succ, i64_w, i32_w]
        rfl
      refine two_ (i := 8) (j := 9) (Ni := some 19) (Nj := some 6) #[true, true, true, true, true, true, true, true, true, false, false] #[true, true, true, true, true, true, true, true, false, true, false] rfl rfl rfl rfl (by kernel_rfl) (by decide) (by decide) (fun K hK => ?_) (fun K hK => ?_)
      · refine goes_ Try.func54 (by kernel_rfl) rfl #[.agg #[.int .i64 r1, .int .i64 r2, .int .i64 r3], .agg #[.int .i64 on, .int .i64 od]] (by rfl) rfl rfl (by (try simp only [List.map_toArray, List.map_cons, List.map_nil]); first | done | rfl) ?_
        refine (HP.out _).mono ?_
        rintro e_ w_ ⟨rfl, hb_⟩
        refine ⟨_, rfl, ?_⟩
        have hS_ := (hHeld.step hb_)
        refine hK.out _ _ hS_ (fun hHeld_ => ?_)
        clear hK K
        exact norm_ (by rfl) (hj_5_8 (0) w_ ⟨hS_, trivial⟩)
      · refine box_step (by rfl) (N := 6) rfl (cs := #[.int .i64 0, .int .i64 0, .int .i64 0]) (t := 93) ?_ ?_
        · first
            | (go_simp; done)
            | (go_simp; rfl)
        intro p9 hp_ w_ hbox_ hB_
        have hS_ := (hHeld.step hB_)
        have hz_ := hHeld.size
        refine hK.out _ _ hS_ (fun hHeld_ => ?_)
        clear hK K
        exact norm_ (by rfl) (hj_5_9 (p9) w_ ⟨hS_, hbox_, by show w.heap.size + 2 ≤ p9; omega, trivial⟩)
    intro hj_5
    refine join_ (σ := Nat) 3 #[true, true, true, true, true, false, true, true, false, true, false] (fun s => [(6, .pointer (some ⟨s, 0, none⟩))]) (fun s wx => (B2 w wx (.cells #[.string f0, .int .i64 f1, .string f2, .int .i64 f3, .int .i64 sn, .int .i64 sd, .int .i64 on, .int .i64 od, .string f8] 34) (.cells #[.int .i64 0, .int .i64 0] 29)) ∧ wx.heap[s]? = some (.cells #[.int .i64 0, .int .i64 0, .int .i64 0] 93 (0, 0)) ∧ w.heap.size + 2 ≤ s ∧ True) ?c_9 ?_
    case c_9 =>
      rintro p9 wN hF
      obtain ⟨hHeld, hb9, hl9, _⟩ := hF
      replace hb9 : wN.heap[p9]? = some (.cells #[.int .i64 0, .int .i64 0, .int .i64 0] 93 (0, 0)) := hb9
      replace hl9 : w.heap.size + 2 ≤ p9 := hl9
      refine norm_ (a' := ?_) ?_ ?_
      rotate_left
      · simp only [putAll, Act.put, List.setIfInBounds_toArray, List.set_cons_zero, List.set_cons_succ, i64_w, i32_w]
        rfl
      refine one_ (i := 5) (N := some 16) #[true, true, true, true, true, true, true, true, false, true, false] rfl rfl (by kernel_rfl) (by decide) (fun K hK => ?_)
      refine goes_ Try.func53 (by kernel_rfl) rfl #[.agg #[.int .i64 raw, .int .i64 1, .int .i64 0], .agg #[.int .i64 sn, .int .i64 sd]] (by rfl) rfl rfl (by (try simp only [List.map_toArray, List.map_cons, List.map_nil]); first | done | rfl) ?_
      refine (HT.out _).mono ?_
      rintro e_ w_ ⟨rfl, hb_⟩
      refine ⟨_, rfl, ?_⟩
      have hS_ := (hHeld.step hb_)
      refine hK.out _ _ hS_ (fun hHeld_ => ?_)
      clear hK K
      exact norm_ (by rfl) (hj_5_9 (p9) w_ ⟨hS_, blk_below hb9 hb_, hl9, trivial⟩)
    intro hj_9
    refine two_ (i := 5) (j := 9) (Ni := some 16) (Nj := some 6) #[true, true, true, true, true, true, true, true, false, false, false] #[true, true, true, true, true, false, true, true, false, true, false] rfl rfl rfl rfl (by kernel_rfl) (by decide) (by decide) (fun K hK => ?_) (fun K hK => ?_)
    · refine goes_ Try.func53 (by kernel_rfl) rfl #[.agg #[.int .i64 raw, .int .i64 1, .int .i64 0], .agg #[.int .i64 sn, .int .i64 sd]] (by rfl) rfl rfl (by (try simp only [List.map_toArray, List.map_cons, List.map_nil]); first | done | rfl) ?_
      refine (HT.out _).mono ?_
      rintro e_ w_ ⟨rfl, hb_⟩
      refine ⟨_, rfl, ?_⟩
      have hS_ := (hHeld.step hb_)
      refine hK.out _ _ hS_ (fun hHeld_ => ?_)
      clear hK K
      exact norm_ (by rfl) (hj_5 (0) w_ ⟨hS_, trivial⟩)
    · refine box_step (by rfl) (N := 6) rfl (cs := #[.int .i64 0, .int .i64 0, .int .i64 0]) (t := 93) ?_ ?_
      · first
          | (go_simp; done)
          | (go_simp; rfl)
      intro p9 hp_ w_ hbox_ hB_
      have hS_ := (hHeld.step hB_)
      have hz_ := hHeld.size
      refine hK.out _ _ hS_ (fun hHeld_ => ?_)
      clear hK K
      exact norm_ (by rfl) (hj_9 (p9) w_ ⟨hS_, hbox_, by show w.heap.size + 2 ≤ p9; omega, trivial⟩)
  clear hHeld
  rintro p9 wN hF
  obtain ⟨hHeld, hb9, hl9, _⟩ := hF
  replace hb9 : wN.heap[p9]? = some (.cells #[.int .i64 0, .int .i64 0, .int .i64 0] 93 (0, 0)) := hb9
  replace hl9 : w.heap.size + 2 ≤ p9 := hl9
  refine norm_ (a' := ?_) ?_ ?_
  rotate_left
  · simp only [putAll, Act.put, List.setIfInBounds_toArray, List.set_cons_zero, List.set_cons_succ, i64_w, i32_w]
    rfl
  have c0 : wN.cell? ⟨p9, 0, none⟩ = some (.int .i64 0) := blk_cell hb9 0
  have cf0 : wN.frozen? ⟨p9, 0, none⟩ = false := blk_frozen hb9 0
  have c1 : wN.cell? ⟨p9, 1, none⟩ = some (.int .i64 0) := blk_cell hb9 1
  have cf1 : wN.frozen? ⟨p9, 1, none⟩ = false := blk_frozen hb9 1
  have c2 : wN.cell? ⟨p9, 2, none⟩ = some (.int .i64 0) := blk_cell hb9 2
  have cf2 : wN.frozen? ⟨p9, 2, none⟩ = false := blk_frozen hb9 2
  refine one_ (i := 10) (N := none) #[true, true, true, true, true, true, true, true, true, true, true] rfl rfl (by kernel_rfl) (by decide) (fun K hK => ?_)
  refine skip_ (w1 := ((wN.setCell ⟨p9, 0, none⟩ (.int .i64 q1)).setCell ⟨p9, 1, none⟩ (.int .i64 q2)).setCell ⟨p9, 2, none⟩ (.int .i64 q3)) (by rfl) rfl ?_ ?_
  · first
    | (go_simp; done)
    | (go_simp; rfl)
  refine hK.out _ _ (((hHeld.far (p := ⟨p9, 0, none⟩) hl9 (.int .i64 q1)).far (p := ⟨p9, 1, none⟩) hl9 (.int .i64 q2)).far (p := ⟨p9, 2, none⟩) hl9 (.int .i64 q3)) (fun hHeld => ?_)
  clear hK K
  refine norm_ (a' := ?_) ?_ ?_
  rotate_left
  · rfl
  refine done_ (by kernel_rfl) ?_
  have kx := blk_set (blk_set (blk_set hb9 0 (.int .i64 q1)) 1 (.int .i64 q2)) 2 (.int .i64 q3)
  clear hB
  obtain ⟨w4, hw4⟩ : ∃ w4, w4 = ((wN.setCell ⟨p9, 0, none⟩ (.int .i64 q1)).setCell ⟨p9, 1, none⟩ (.int .i64 q2)).setCell ⟨p9, 2, none⟩ (.int .i64 q3) := ⟨_, rfl⟩
  rw [← hw4] at kx hHeld ⊢
  have hB := hHeld
  clear hHeld hw4 hb9 c0 c1 c2 cf0 cf1 cf2
  have hn9 : w.heap.size + 1 ≠ p9 := by omega
  have hn9' : p9 ≠ w.heap.size + 1 := by omega
  go_wp2_with fail
  have hx := hB.b2
  have c0 : w4.cell? ⟨p9, 0, none⟩ = some (.int .i64 q1) := blk_cell kx 0
  have c1 : w4.cell? ⟨p9, 1, none⟩ = some (.int .i64 q2) := blk_cell kx 1
  have c2 : w4.cell? ⟨p9, 2, none⟩ = some (.int .i64 q3) := blk_cell kx 2
  have d0 : w4.cell? ⟨w.heap.size + 1, 0, none⟩ = some (.int .i64 0) := blk_cell hx 0
  have df0 : w4.frozen? ⟨w.heap.size + 1, 0, none⟩ = false := blk_frozen hx 0
  have d1 : w4.cell? ⟨w.heap.size + 1, 1, none⟩ = some (.int .i64 0) := blk_cell hx 1
  have df1 : w4.frozen? ⟨w.heap.size + 1, 1, none⟩ = false := blk_frozen hx 1
  go_region
  have k7 := blk_drew (blk_set (blk_set hx 0 (.int .i64 q1)) 1 (.int .i64 q2))
  have hB7 := below_drew1 ((hB.be.setCell (p := ⟨w.heap.size + 1, 0, none⟩) (by show w.heap.size ≤ w.heap.size + 1; omega) (.int .i64 q1)).setCell (p := ⟨w.heap.size + 1, 1, none⟩) (by show w.heap.size ≤ w.heap.size + 1; omega) (.int .i64 q2))
  obtain ⟨w7, hw7⟩ : ∃ w7, w7 = ((w4.setCell ⟨w.heap.size + 1, 0, none⟩ (.int .i64 q1)).setCell ⟨w.heap.size + 1, 1, none⟩ (.int .i64 q2)).drew := ⟨_, rfl⟩
  rw [← hw7] at k7 hB7
  try rw [← hw7]
  clear hw7
  have s0 : w7.cell? ⟨w.heap.size + 1, 0, none⟩ = some (.int .i64 q1) := blk_cell k7 0
  have s1 : w7.cell? ⟨w.heap.size + 1, 1, none⟩ = some (.int .i64 q2) := blk_cell k7 1
  go_wp2_with fail
  refine bodyPost_ret (by simp [results, Try.results22, go_sem, s0, s1]; try rfl) rfl ?_
  exact ⟨rfl, hB7⟩

theorem value_calls (f0 : ByteArray) (f1 : Int) (f2 : ByteArray) (f3 sn sd on od : Int) (f8 : ByteArray) (raw : Int) (hsn : I64 sn) (hsd : I64 sd) (hon : I64 on) (hod : I64 od) (hraw : I64 raw) (w : World) :
    Calls Try.prog 22 #[.agg #[.string f0, .int .i64 f1, .string f2, .int .i64 f3, .int .i64 sn, .int .i64 sd, .int .i64 on, .int .i64 od, .string f8], .int .i64 raw] w fun e w' => e = ans (valueR sn sd on od raw) ∧ Below w.heap.size w w' := by
  unfold valueR
  by_cases hr : Rt sn sd ∧ Rt on od
  · rw [if_pos hr]
    exact value_right f0 f1 f2 f3 sn sd on od f8 raw hsn hsd hon hod hraw hr w
  · rw [if_neg hr]
    exact value_wrong f0 f1 f2 f3 sn sd on od f8 raw hsn hsd hon hod hr w
end Go.Proofs.Ytcldlfhnmkogeaa.Scale

/- The raw number of a value (scale.Raw), walked. -/
set_option linter.unusedVariables false
set_option linter.unusedSimpArgs false
namespace Go.Proofs.Ytcldlfhnmkogeaa.Scale
open Go.RowKit Go.Proofs.YtcldlfhnmkogeaaW.PrintWords Go.Proofs.YtcldlfhnmkogeaaW.PrintLast Go.Proofs.Ytcldlfhnmkogeaa.Nats Go.Proofs.Ytcldlfhnmkogeaa.HeapKit Go.Proofs.Ytcldlfhnmkogeaa.PAdd Go.Proofs.Ytcldlfhnmkogeaa.RatPlain

/-- 1 over a fraction. -/
def over (sn sd : Int) : Int × Int := if sn > 0 then (sd, sn) else (-sd, -sn)

set_option maxRecDepth 100000 in
set_option maxHeartbeats 4000000 in
theorem over_up {sn sd : Int} (h0 : 0 < sn) (w : World) :
    Calls Try.prog 57 #[.agg #[.int .i64 sn, .int .i64 sd]] w fun e w' => e = .returned (.tuple #[.agg #[.int .i64 sd, .int .i64 sn], .bool true]) ∧ Below w.heap.size w w' := by
  have t1 : decide (sn > 0) = true := by simp; omega
  have hR := b2_start w (.cells #[.int .i64 sn, .int .i64 sd] 29) (.cells #[.int .i64 sd, .int .i64 sn] 29)
  go_enter Try.func57, Try.ntmps57
  go_wp2_with fail
  obtain ⟨w_, hw_⟩ : ∃ w_, w_ = ((w.alloc (.cells #[.int .i64 sn, .int .i64 sd] 29)).alloc (.cells #[.int .i64 sd, .int .i64 sn] 29)) := ⟨_, rfl⟩
  rw [← hw_] at hR
  try rw [← hw_]
  clear hw_
  have s0 : w_.cell? ⟨w.heap.size + 1, 0, none⟩ = some (.int .i64 sd) := blk_cell hR.b2 0
  have s1 : w_.cell? ⟨w.heap.size + 1, 1, none⟩ = some (.int .i64 sn) := blk_cell hR.b2 1
  refine bodyPost_ret (by simp [results, Try.results57, go_sem, s0, s1]; try rfl) rfl ?_
  exact ⟨rfl, hR.be⟩

set_option maxRecDepth 100000 in
set_option maxHeartbeats 4000000 in
theorem over_down {sn sd : Int} (hs : I64 sn) (hd : I64 sd) (h0 : sn ≤ 0) (h1 : 0 < sd) (x2 : Int) (ox : Bool) (hx : RatPlain.watched (-sn) = (x2, ox)) (w : World) :
    Calls Try.prog 57 #[.agg #[.int .i64 sn, .int .i64 sd]] w fun e w' => e = .returned (.tuple #[.agg #[.int .i64 (-sd), .int .i64 x2], .bool ox]) ∧ Below w.heap.size w w' := by
  have t1 : decide (sn > 0) = false := by simp; omega
  have hn := neg_eq hs
  rw [hx] at hn
  have i2 : I64 (-sd) := by unfold I64 at *; omega
  have e2 : IntKind.i64.wrap (-sd) = -sd := by rw [i64_w]; exact wrap_in i2
  go_enter Try.func57, Try.ntmps57
  go_wp2_with fail
  refine (whole_Neg.calls sn x2 ox _ hn).mono ?_
  rintro e w1 ⟨rfl, hb1⟩
  have hB := (b2_start w (.cells #[.int .i64 sn, .int .i64 sd] 29) (.cells #[.int .i64 0, .int .i64 0] 29)).step hb1.below
  clear hb1
  have a0 : w1.cell? ⟨w.heap.size, 0, none⟩ = some (.int .i64 sn) := blk_cell hB.b1 0
  have a1 : w1.cell? ⟨w.heap.size, 1, none⟩ = some (.int .i64 sd) := blk_cell hB.b1 1
  have hx_ := hB.b2
  have d_0 : w1.cell? ⟨w.heap.size + 1, 0, none⟩ = some (.int .i64 0) := blk_cell hx_ 0
  have df_0 : w1.frozen? ⟨w.heap.size + 1, 0, none⟩ = false := blk_frozen hx_ 0
  have d_1 : w1.cell? ⟨w.heap.size + 1, 1, none⟩ = some (.int .i64 0) := blk_cell hx_ 1
  have df_1 : w1.frozen? ⟨w.heap.size + 1, 1, none⟩ = false := blk_frozen hx_ 1
  go_wp2_with fail
  have k_ := (blk_set (blk_set hx_ 0 (.int .i64 (-sd))) 1 (.int .i64 x2))
  have hB_ := (Below.setCell (Below.setCell hB.be (p := ⟨w.heap.size + 1, 0, none⟩) ((by show w.heap.size ≤ w.heap.size + 1; omega)) (.int .i64 (-sd))) (p := ⟨w.heap.size + 1, 1, none⟩) ((by show w.heap.size ≤ w.heap.size + 1; omega)) (.int .i64 x2))
  obtain ⟨w_, hw_⟩ : ∃ w_, w_ = (World.setCell (World.setCell w1 ⟨w.heap.size + 1, 0, none⟩ (.int .i64 (-sd))) ⟨w.heap.size + 1, 1, none⟩ (.int .i64 x2)) := ⟨_, rfl⟩
  rw [← hw_] at k_ hB_
  try rw [← hw_]
  clear hw_
  have s_0 : w_.cell? ⟨w.heap.size + 1, 0, none⟩ = some (.int .i64 (-sd)) := blk_cell k_ 0
  have s_1 : w_.cell? ⟨w.heap.size + 1, 1, none⟩ = some (.int .i64 x2) := blk_cell k_ 1
  refine bodyPost_ret (by simp [results, Try.results57, go_sem, s_0, s_1]; try rfl) rfl ?_
  exact ⟨rfl, hB_⟩

/-- What over answers. -/
theorem over_calls {sn sd : Int} (hs : I64 sn) (hd : I64 sd) (h1 : 0 < sd) (w : World) :
    Calls Try.prog 57 #[.agg #[.int .i64 sn, .int .i64 sd]] w fun e w' => e = .returned (if sn = -9223372036854775808 then .tuple #[.agg #[.int .i64 (-sd), .int .i64 0], .bool false] else .tuple #[.agg #[.int .i64 (over sn sd).1, .int .i64 (over sn sd).2], .bool true]) ∧ Below w.heap.size w w' := by
  unfold over
  by_cases h0 : 0 < sn
  · rw [if_neg (by omega), if_pos h0]
    exact over_up h0 w
  · rw [if_neg h0]
    by_cases hm : sn = -9223372036854775808
    · rw [if_pos hm]
      exact over_down hs hd (by omega) h1 0 false (watched_no (by rw [hm]; decide)) w
    · rw [if_neg hm]
      exact over_down hs hd (by omega) h1 (-sn) true (watched_yes (x := -sn) (by unfold I64 at *; omega)) w

set_option maxRecDepth 100000 in
set_option maxHeartbeats 4000000 in
theorem raw_wrong1 (f0 : ByteArray) (f1 : Int) (f2 : ByteArray) (f3 sn sd on od : Int) (f8 : ByteArray) (vn vd : Int) (hsn : I64 sn) (hsd : I64 sd) (hon : I64 on) (hod : I64 od) (hvn : I64 vn) (hvd : I64 vd) (hr : ¬ (Rt sn sd ∧ Rt on od)) (w : World) :
    Calls Try.prog 24 #[.agg #[.string f0, .int .i64 f1, .string f2, .int .i64 f3, .int .i64 sn, .int .i64 sd, .int .i64 on, .int .i64 od, .string f8], .agg #[.int .i64 vn, .int .i64 vd]] w fun e w' => e = .returned (.tuple #[.int .i64 0, .int .i64 1]) ∧ Below w.heap.size w w' := by
  have hc := fun w => fright_calls f0 f1 f2 f3 sn sd on od f8 hsn hsd hon hod w
  simp only [decide_eq_false hr] at hc
  have HC := Lib.hid hc
  clear hc
  go_enter Try.func24, Try.ntmps24
  go_wp2_with fail
  refine (HC.out _).mono ?_
  rintro e w1 ⟨rfl, hb1⟩
  have hB := (b2_start w (.cells #[.string f0, .int .i64 f1, .string f2, .int .i64 f3, .int .i64 sn, .int .i64 sd, .int .i64 on, .int .i64 od, .string f8] 34) (.cells #[.int .i64 vn, .int .i64 vd] 29)).step hb1
  clear hb1
  go_wp2_with fail
  go_ret2
  exact ⟨rfl, hB.be⟩

set_option maxRecDepth 100000 in
set_option maxHeartbeats 4000000 in
theorem raw_wrong2 (f0 : ByteArray) (f1 : Int) (f2 : ByteArray) (f3 sn sd on od : Int) (f8 : ByteArray) (vn vd : Int) (hsn : I64 sn) (hsd : I64 sd) (hon : I64 on) (hod : I64 od) (hvn : I64 vn) (hvd : I64 vd) (hr : Rt sn sd ∧ Rt on od) (hv0 : ¬ Rt vn vd) (w : World) :
    Calls Try.prog 24 #[.agg #[.string f0, .int .i64 f1, .string f2, .int .i64 f3, .int .i64 sn, .int .i64 sd, .int .i64 on, .int .i64 od, .string f8], .agg #[.int .i64 vn, .int .i64 vd]] w fun e w' => e = .returned (.tuple #[.int .i64 0, .int .i64 1]) ∧ Below w.heap.size w w' := by
  have hc := fun w => fright_calls f0 f1 f2 f3 sn sd on od f8 hsn hsd hon hod w
  simp only [decide_eq_true hr] at hc
  have HC := Lib.hid hc
  clear hc
  have hv := fun w => right_calls hvn hvd w
  simp only [decide_eq_false hv0] at hv
  have HV := Lib.hid hv
  clear hv
  go_enter Try.func24, Try.ntmps24
  go_wp2_with fail
  refine (HC.out _).mono ?_
  rintro e w1 ⟨rfl, hb1⟩
  have hB := (b2_start w (.cells #[.string f0, .int .i64 f1, .string f2, .int .i64 f3, .int .i64 sn, .int .i64 sd, .int .i64 on, .int .i64 od, .string f8] 34) (.cells #[.int .i64 vn, .int .i64 vd] 29)).step hb1
  clear hb1
  have a0 : w1.cell? ⟨w.heap.size, 0, none⟩ = some (.string f0) := blk_cell hB.b1 0
  have a1 : w1.cell? ⟨w.heap.size, 1, none⟩ = some (.int .i64 f1) := blk_cell hB.b1 1
  have a2 : w1.cell? ⟨w.heap.size, 2, none⟩ = some (.string f2) := blk_cell hB.b1 2
  have a3 : w1.cell? ⟨w.heap.size, 3, none⟩ = some (.int .i64 f3) := blk_cell hB.b1 3
  have a4 : w1.cell? ⟨w.heap.size, 4, none⟩ = some (.int .i64 sn) := blk_cell hB.b1 4
  have a5 : w1.cell? ⟨w.heap.size, 5, none⟩ = some (.int .i64 sd) := blk_cell hB.b1 5
  have a6 : w1.cell? ⟨w.heap.size, 6, none⟩ = some (.int .i64 on) := blk_cell hB.b1 6
  have a7 : w1.cell? ⟨w.heap.size, 7, none⟩ = some (.int .i64 od) := blk_cell hB.b1 7
  have a8 : w1.cell? ⟨w.heap.size, 8, none⟩ = some (.string f8) := blk_cell hB.b1 8
  have b0 : w1.cell? ⟨w.heap.size + 1, 0, none⟩ = some (.int .i64 vn) := blk_cell hB.b2 0
  have b1 : w1.cell? ⟨w.heap.size + 1, 1, none⟩ = some (.int .i64 vd) := blk_cell hB.b2 1
  go_wp2_with fail
  refine (HV.out _).mono ?_
  rintro e w2 ⟨rfl, hb2⟩
  replace hB := hB.step hb2
  clear hb2
  clear a0 a1 a2 a3 a4 a5 a6 a7 a8 b0 b1
  have a0 : w2.cell? ⟨w.heap.size, 0, none⟩ = some (.string f0) := blk_cell hB.b1 0
  have a1 : w2.cell? ⟨w.heap.size, 1, none⟩ = some (.int .i64 f1) := blk_cell hB.b1 1
  have a2 : w2.cell? ⟨w.heap.size, 2, none⟩ = some (.string f2) := blk_cell hB.b1 2
  have a3 : w2.cell? ⟨w.heap.size, 3, none⟩ = some (.int .i64 f3) := blk_cell hB.b1 3
  have a4 : w2.cell? ⟨w.heap.size, 4, none⟩ = some (.int .i64 sn) := blk_cell hB.b1 4
  have a5 : w2.cell? ⟨w.heap.size, 5, none⟩ = some (.int .i64 sd) := blk_cell hB.b1 5
  have a6 : w2.cell? ⟨w.heap.size, 6, none⟩ = some (.int .i64 on) := blk_cell hB.b1 6
  have a7 : w2.cell? ⟨w.heap.size, 7, none⟩ = some (.int .i64 od) := blk_cell hB.b1 7
  have a8 : w2.cell? ⟨w.heap.size, 8, none⟩ = some (.string f8) := blk_cell hB.b1 8
  have b0 : w2.cell? ⟨w.heap.size + 1, 0, none⟩ = some (.int .i64 vn) := blk_cell hB.b2 0
  have b1 : w2.cell? ⟨w.heap.size + 1, 1, none⟩ = some (.int .i64 vd) := blk_cell hB.b2 1
  go_wp2_with fail
  go_ret2
  exact ⟨rfl, hB.be⟩

set_option maxRecDepth 100000 in
set_option maxHeartbeats 4000000 in
theorem raw_zero (f0 : ByteArray) (f1 : Int) (f2 : ByteArray) (f3 sn sd on od : Int) (f8 : ByteArray) (vn vd : Int) (hsn : I64 sn) (hsd : I64 sd) (hon : I64 on) (hod : I64 od) (hvn : I64 vn) (hvd : I64 vd) (hr : Rt sn sd ∧ Rt on od) (hv0 : Rt vn vd) (hz : sn = 0) (w : World) :
    Calls Try.prog 24 #[.agg #[.string f0, .int .i64 f1, .string f2, .int .i64 f3, .int .i64 sn, .int .i64 sd, .int .i64 on, .int .i64 od, .string f8], .agg #[.int .i64 vn, .int .i64 vd]] w fun e w' => e = .returned (.tuple #[.int .i64 0, .int .i64 3]) ∧ Below w.heap.size w w' := by
  have hc := fun w => fright_calls f0 f1 f2 f3 sn sd on od f8 hsn hsd hon hod w
  simp only [decide_eq_true hr] at hc
  have HC := Lib.hid hc
  clear hc
  have hv := fun w => right_calls hvn hvd w
  simp only [decide_eq_true hv0] at hv
  have HV := Lib.hid hv
  clear hv
  subst hz
  go_enter Try.func24, Try.ntmps24
  go_wp2_with fail
  refine (HC.out _).mono ?_
  rintro e w1 ⟨rfl, hb1⟩
  have hB := (b2_start w (.cells #[.string f0, .int .i64 f1, .string f2, .int .i64 f3, .int .i64 0, .int .i64 sd, .int .i64 on, .int .i64 od, .string f8] 34) (.cells #[.int .i64 vn, .int .i64 vd] 29)).step hb1
  clear hb1
  have a0 : w1.cell? ⟨w.heap.size, 0, none⟩ = some (.string f0) := blk_cell hB.b1 0
  have a1 : w1.cell? ⟨w.heap.size, 1, none⟩ = some (.int .i64 f1) := blk_cell hB.b1 1
  have a2 : w1.cell? ⟨w.heap.size, 2, none⟩ = some (.string f2) := blk_cell hB.b1 2
  have a3 : w1.cell? ⟨w.heap.size, 3, none⟩ = some (.int .i64 f3) := blk_cell hB.b1 3
  have a4 : w1.cell? ⟨w.heap.size, 4, none⟩ = some (.int .i64 0) := blk_cell hB.b1 4
  have a5 : w1.cell? ⟨w.heap.size, 5, none⟩ = some (.int .i64 sd) := blk_cell hB.b1 5
  have a6 : w1.cell? ⟨w.heap.size, 6, none⟩ = some (.int .i64 on) := blk_cell hB.b1 6
  have a7 : w1.cell? ⟨w.heap.size, 7, none⟩ = some (.int .i64 od) := blk_cell hB.b1 7
  have a8 : w1.cell? ⟨w.heap.size, 8, none⟩ = some (.string f8) := blk_cell hB.b1 8
  have b0 : w1.cell? ⟨w.heap.size + 1, 0, none⟩ = some (.int .i64 vn) := blk_cell hB.b2 0
  have b1 : w1.cell? ⟨w.heap.size + 1, 1, none⟩ = some (.int .i64 vd) := blk_cell hB.b2 1
  go_wp2_with fail
  refine (HV.out _).mono ?_
  rintro e w2 ⟨rfl, hb2⟩
  replace hB := hB.step hb2
  clear hb2
  clear a0 a1 a2 a3 a4 a5 a6 a7 a8 b0 b1
  have a0 : w2.cell? ⟨w.heap.size, 0, none⟩ = some (.string f0) := blk_cell hB.b1 0
  have a1 : w2.cell? ⟨w.heap.size, 1, none⟩ = some (.int .i64 f1) := blk_cell hB.b1 1
  have a2 : w2.cell? ⟨w.heap.size, 2, none⟩ = some (.string f2) := blk_cell hB.b1 2
  have a3 : w2.cell? ⟨w.heap.size, 3, none⟩ = some (.int .i64 f3) := blk_cell hB.b1 3
  have a4 : w2.cell? ⟨w.heap.size, 4, none⟩ = some (.int .i64 0) := blk_cell hB.b1 4
  have a5 : w2.cell? ⟨w.heap.size, 5, none⟩ = some (.int .i64 sd) := blk_cell hB.b1 5
  have a6 : w2.cell? ⟨w.heap.size, 6, none⟩ = some (.int .i64 on) := blk_cell hB.b1 6
  have a7 : w2.cell? ⟨w.heap.size, 7, none⟩ = some (.int .i64 od) := blk_cell hB.b1 7
  have a8 : w2.cell? ⟨w.heap.size, 8, none⟩ = some (.string f8) := blk_cell hB.b1 8
  have b0 : w2.cell? ⟨w.heap.size + 1, 0, none⟩ = some (.int .i64 vn) := blk_cell hB.b2 0
  have b1 : w2.cell? ⟨w.heap.size + 1, 1, none⟩ = some (.int .i64 vd) := blk_cell hB.b2 1
  go_wp2_with fail
  go_ret2
  exact ⟨rfl, hB.be⟩

set_option maxRecDepth 100000 in
set_option maxHeartbeats 4000000 in
theorem raw_over (f0 : ByteArray) (f1 : Int) (f2 : ByteArray) (f3 sn sd on od : Int) (f8 : ByteArray) (vn vd : Int) (hsn : I64 sn) (hsd : I64 sd) (hon : I64 on) (hod : I64 od) (hvn : I64 vn) (hvd : I64 vd) (hr : Rt sn sd ∧ Rt on od) (hv0 : Rt vn vd) (hz : sn ≠ 0) (ho : on = -9223372036854775808 ∨ sn = -9223372036854775808) (w : World) :
    Calls Try.prog 24 #[.agg #[.string f0, .int .i64 f1, .string f2, .int .i64 f3, .int .i64 sn, .int .i64 sd, .int .i64 on, .int .i64 od, .string f8], .agg #[.int .i64 vn, .int .i64 vd]] w fun e w' => e = .returned (.tuple #[.int .i64 0, .int .i64 2]) ∧ Below w.heap.size w w' := by
  have hc := fun w => fright_calls f0 f1 f2 f3 sn sd on od f8 hsn hsd hon hod w
  simp only [decide_eq_true hr] at hc
  have HC := Lib.hid hc
  clear hc
  have hv := fun w => right_calls hvn hvd w
  simp only [decide_eq_true hv0] at hv
  have HV := Lib.hid hv
  clear hv
  have z1 : (sn == 0) = false := by simp [hz]
  have hn := neg_eq hon
  obtain ⟨nn, on1, hnn, fn, gn⟩ := watch (-on)
  rw [hnn] at hn
  have hov := fun w => over_calls hsn hsd hr.1.1 w
  obtain ⟨x1, x2, ox, hx, hox⟩ : ∃ x1 x2 ox, (∀ w, Calls Try.prog 57 #[.agg #[.int .i64 sn, .int .i64 sd]] w fun e w' => e = .returned (.tuple #[.agg #[.int .i64 x1, .int .i64 x2], .bool ox]) ∧ Below w.heap.size w w') ∧ (sn = -9223372036854775808 → ox = false) := by
    by_cases hm : sn = -9223372036854775808
    · simp only [if_pos hm] at hov
      exact ⟨_, _, _, hov, fun _ => rfl⟩
    · simp only [if_neg hm] at hov
      exact ⟨_, _, _, hov, fun h => absurd h hm⟩
  have hoo : on1 = false ∨ ox = false := by
    rcases ho with h | h
    · left
      cases on1 with
      | false => rfl
      | true => have := (fn rfl).1; unfold I64 at this; omega
    · right
      exact hox h
  have HX := Lib.hid hx
  clear hov hx hox hr hv0 ho fn gn hnn
  go_enter Try.func24, Try.ntmps24
  go_wp2_with fail
  refine (HC.out _).mono ?_
  rintro e w1 ⟨rfl, hb1⟩
  have hB := (b2_start w (.cells #[.string f0, .int .i64 f1, .string f2, .int .i64 f3, .int .i64 sn, .int .i64 sd, .int .i64 on, .int .i64 od, .string f8] 34) (.cells #[.int .i64 vn, .int .i64 vd] 29)).step hb1
  clear hb1
  have a0 : w1.cell? ⟨w.heap.size, 0, none⟩ = some (.string f0) := blk_cell hB.b1 0
  have a1 : w1.cell? ⟨w.heap.size, 1, none⟩ = some (.int .i64 f1) := blk_cell hB.b1 1
  have a2 : w1.cell? ⟨w.heap.size, 2, none⟩ = some (.string f2) := blk_cell hB.b1 2
  have a3 : w1.cell? ⟨w.heap.size, 3, none⟩ = some (.int .i64 f3) := blk_cell hB.b1 3
  have a4 : w1.cell? ⟨w.heap.size, 4, none⟩ = some (.int .i64 sn) := blk_cell hB.b1 4
  have a5 : w1.cell? ⟨w.heap.size, 5, none⟩ = some (.int .i64 sd) := blk_cell hB.b1 5
  have a6 : w1.cell? ⟨w.heap.size, 6, none⟩ = some (.int .i64 on) := blk_cell hB.b1 6
  have a7 : w1.cell? ⟨w.heap.size, 7, none⟩ = some (.int .i64 od) := blk_cell hB.b1 7
  have a8 : w1.cell? ⟨w.heap.size, 8, none⟩ = some (.string f8) := blk_cell hB.b1 8
  have b0 : w1.cell? ⟨w.heap.size + 1, 0, none⟩ = some (.int .i64 vn) := blk_cell hB.b2 0
  have b1 : w1.cell? ⟨w.heap.size + 1, 1, none⟩ = some (.int .i64 vd) := blk_cell hB.b2 1
  go_wp2_with fail
  refine (HV.out _).mono ?_
  rintro e w2 ⟨rfl, hb2⟩
  replace hB := hB.step hb2
  clear hb2
  clear a0 a1 a2 a3 a4 a5 a6 a7 a8 b0 b1
  have a0 : w2.cell? ⟨w.heap.size, 0, none⟩ = some (.string f0) := blk_cell hB.b1 0
  have a1 : w2.cell? ⟨w.heap.size, 1, none⟩ = some (.int .i64 f1) := blk_cell hB.b1 1
  have a2 : w2.cell? ⟨w.heap.size, 2, none⟩ = some (.string f2) := blk_cell hB.b1 2
  have a3 : w2.cell? ⟨w.heap.size, 3, none⟩ = some (.int .i64 f3) := blk_cell hB.b1 3
  have a4 : w2.cell? ⟨w.heap.size, 4, none⟩ = some (.int .i64 sn) := blk_cell hB.b1 4
  have a5 : w2.cell? ⟨w.heap.size, 5, none⟩ = some (.int .i64 sd) := blk_cell hB.b1 5
  have a6 : w2.cell? ⟨w.heap.size, 6, none⟩ = some (.int .i64 on) := blk_cell hB.b1 6
  have a7 : w2.cell? ⟨w.heap.size, 7, none⟩ = some (.int .i64 od) := blk_cell hB.b1 7
  have a8 : w2.cell? ⟨w.heap.size, 8, none⟩ = some (.string f8) := blk_cell hB.b1 8
  have b0 : w2.cell? ⟨w.heap.size + 1, 0, none⟩ = some (.int .i64 vn) := blk_cell hB.b2 0
  have b1 : w2.cell? ⟨w.heap.size + 1, 1, none⟩ = some (.int .i64 vd) := blk_cell hB.b2 1
  go_wp2_with fail
  refine (PAdd.whole_Neg.calls on nn on1 _ hn).mono ?_
  rintro e w3 ⟨rfl, hb3⟩
  replace hB := hB.step hb3.below
  clear hb3
  clear a0 a1 a2 a3 a4 a5 a6 a7 a8 b0 b1
  have a0 : w3.cell? ⟨w.heap.size, 0, none⟩ = some (.string f0) := blk_cell hB.b1 0
  have a1 : w3.cell? ⟨w.heap.size, 1, none⟩ = some (.int .i64 f1) := blk_cell hB.b1 1
  have a2 : w3.cell? ⟨w.heap.size, 2, none⟩ = some (.string f2) := blk_cell hB.b1 2
  have a3 : w3.cell? ⟨w.heap.size, 3, none⟩ = some (.int .i64 f3) := blk_cell hB.b1 3
  have a4 : w3.cell? ⟨w.heap.size, 4, none⟩ = some (.int .i64 sn) := blk_cell hB.b1 4
  have a5 : w3.cell? ⟨w.heap.size, 5, none⟩ = some (.int .i64 sd) := blk_cell hB.b1 5
  have a6 : w3.cell? ⟨w.heap.size, 6, none⟩ = some (.int .i64 on) := blk_cell hB.b1 6
  have a7 : w3.cell? ⟨w.heap.size, 7, none⟩ = some (.int .i64 od) := blk_cell hB.b1 7
  have a8 : w3.cell? ⟨w.heap.size, 8, none⟩ = some (.string f8) := blk_cell hB.b1 8
  have b0 : w3.cell? ⟨w.heap.size + 1, 0, none⟩ = some (.int .i64 vn) := blk_cell hB.b2 0
  have b1 : w3.cell? ⟨w.heap.size + 1, 1, none⟩ = some (.int .i64 vd) := blk_cell hB.b2 1
  go_wp2_with fail
  refine (HX.out _).mono ?_
  rintro e w4 ⟨rfl, hb4⟩
  replace hB := hB.step hb4
  clear hb4
  clear a0 a1 a2 a3 a4 a5 a6 a7 a8 b0 b1
  have hB5 := hB.step (below_alloc (Below.refl _ _) (.cells #[.int .i64 x1, .int .i64 x2] 29))
  cases on1 with
  | false =>
    go_wp2_with fail
    go_ret2
    exact ⟨rfl, hB5.be⟩
  | true =>
    have hoo2 : ox = false := by rcases hoo with h | h; cases h; exact h
    subst hoo2
    go_wp2_with fail
    go_ret2
    exact ⟨rfl, hB5.be⟩

/-- How Raw ends. -/
def fin (r : Int × Int × Int) : Int × Int := if r.2.2 = 0 then (if r.2.1 = 1 then (r.1, 0) else (0, 6)) else (0, r.2.2)

set_option maxRecDepth 100000 in
set_option maxHeartbeats 4000000 in
theorem raw_good (f0 : ByteArray) (f1 : Int) (f2 : ByteArray) (f3 sn sd on od : Int) (f8 : ByteArray) (vn vd : Int) (hsn : I64 sn) (hsd : I64 sd) (hon : I64 on) (hod : I64 od) (hvn : I64 vn) (hvd : I64 vd) (hr : Rt sn sd ∧ Rt on od) (hv0 : Rt vn vd) (hz : sn ≠ 0) (ho : on ≠ -9223372036854775808) (hs : sn ≠ -9223372036854775808) (w : World) :
    Calls Try.prog 24 #[.agg #[.string f0, .int .i64 f1, .string f2, .int .i64 f3, .int .i64 sn, .int .i64 sd, .int .i64 on, .int .i64 od, .string f8], .agg #[.int .i64 vn, .int .i64 vd]] w fun e w' => e = .returned (.tuple #[.int .i64 (fin (timesW (plusW (vn, vd, 0) (-on) od) (over sn sd).1 (over sn sd).2)).1, .int .i64 (fin (timesW (plusW (vn, vd, 0) (-on) od) (over sn sd).1 (over sn sd).2)).2]) ∧ Below w.heap.size w w' := by
  have hc := fun w => fright_calls f0 f1 f2 f3 sn sd on od f8 hsn hsd hon hod w
  simp only [decide_eq_true hr] at hc
  have HC := Lib.hid hc
  clear hc
  have hv := fun w => right_calls hvn hvd w
  simp only [decide_eq_true hv0] at hv
  have HV := Lib.hid hv
  clear hv
  have z1 : (sn == 0) = false := by simp [hz]
  have ino : I64 (-on) := by unfold I64 at *; omega
  have hn := neg_eq hon
  rw [watched_yes ino] at hn
  have hov := fun w => over_calls hsn hsd hr.1.1 w
  simp only [if_neg hs] at hov
  have ib : I64 (over sn sd).1 ∧ I64 (over sn sd).2 := by
    have := hr.1.1
    unfold over I64 at *
    split <;> constructor <;> dsimp only <;> omega
  obtain ⟨⟨b1, b2⟩, hb⟩ : ∃ b, over sn sd = b := ⟨_, rfl⟩
  simp only [hb] at hov ib
  rw [hb]
  obtain ⟨nn, hnn⟩ : ∃ nn, -on = nn := ⟨_, rfl⟩
  rw [hnn] at hn ino
  rw [hnn]
  have i0 : In (vn, vd, 0) := ⟨hvn, hvd⟩
  have i1 : In (plusW (vn, vd, 0) nn od) := plusW_In i0
  have hp := fun w => plus_calls (r1 := vn) (r2 := vd) (r3 := 0) i0 ino hod w
  obtain ⟨⟨r1, r2, r3⟩, hr1⟩ : ∃ r, plusW (vn, vd, 0) nn od = r := ⟨_, rfl⟩
  rw [hr1] at i1
  simp only [hr1] at hp
  have ht := fun w => times_calls (r1 := r1) (r2 := r2) (r3 := r3) i1 ib.1 ib.2 w
  rw [hr1]
  obtain ⟨⟨q1, q2, q3⟩, hq1⟩ : ∃ r, timesW (r1, r2, r3) b1 b2 = r := ⟨_, rfl⟩
  simp only [hq1] at ht
  rw [hq1]
  clear hr1 hq1 hb hnn hr hv0 ho hs i1
  simp only [way] at ht hp
  have HX := Lib.hid hov
  have HT := Lib.hid ht
  have HP := Lib.hid hp
  clear hov ht hp
  go_enter Try.func24, Try.ntmps24
  go_wp2_with fail
  refine (HC.out _).mono ?_
  rintro e w1 ⟨rfl, hb1⟩
  have hB := (b2_start w (.cells #[.string f0, .int .i64 f1, .string f2, .int .i64 f3, .int .i64 sn, .int .i64 sd, .int .i64 on, .int .i64 od, .string f8] 34) (.cells #[.int .i64 vn, .int .i64 vd] 29)).step hb1
  clear hb1
  have a0 : w1.cell? ⟨w.heap.size, 0, none⟩ = some (.string f0) := blk_cell hB.b1 0
  have a1 : w1.cell? ⟨w.heap.size, 1, none⟩ = some (.int .i64 f1) := blk_cell hB.b1 1
  have a2 : w1.cell? ⟨w.heap.size, 2, none⟩ = some (.string f2) := blk_cell hB.b1 2
  have a3 : w1.cell? ⟨w.heap.size, 3, none⟩ = some (.int .i64 f3) := blk_cell hB.b1 3
  have a4 : w1.cell? ⟨w.heap.size, 4, none⟩ = some (.int .i64 sn) := blk_cell hB.b1 4
  have a5 : w1.cell? ⟨w.heap.size, 5, none⟩ = some (.int .i64 sd) := blk_cell hB.b1 5
  have a6 : w1.cell? ⟨w.heap.size, 6, none⟩ = some (.int .i64 on) := blk_cell hB.b1 6
  have a7 : w1.cell? ⟨w.heap.size, 7, none⟩ = some (.int .i64 od) := blk_cell hB.b1 7
  have a8 : w1.cell? ⟨w.heap.size, 8, none⟩ = some (.string f8) := blk_cell hB.b1 8
  have b0 : w1.cell? ⟨w.heap.size + 1, 0, none⟩ = some (.int .i64 vn) := blk_cell hB.b2 0
  have b1 : w1.cell? ⟨w.heap.size + 1, 1, none⟩ = some (.int .i64 vd) := blk_cell hB.b2 1
  go_wp2_with fail
  refine (HV.out _).mono ?_
  rintro e w2 ⟨rfl, hb2⟩
  replace hB := hB.step hb2
  clear hb2
  clear a0 a1 a2 a3 a4 a5 a6 a7 a8 b0 b1
  have a0 : w2.cell? ⟨w.heap.size, 0, none⟩ = some (.string f0) := blk_cell hB.b1 0
  have a1 : w2.cell? ⟨w.heap.size, 1, none⟩ = some (.int .i64 f1) := blk_cell hB.b1 1
  have a2 : w2.cell? ⟨w.heap.size, 2, none⟩ = some (.string f2) := blk_cell hB.b1 2
  have a3 : w2.cell? ⟨w.heap.size, 3, none⟩ = some (.int .i64 f3) := blk_cell hB.b1 3
  have a4 : w2.cell? ⟨w.heap.size, 4, none⟩ = some (.int .i64 sn) := blk_cell hB.b1 4
  have a5 : w2.cell? ⟨w.heap.size, 5, none⟩ = some (.int .i64 sd) := blk_cell hB.b1 5
  have a6 : w2.cell? ⟨w.heap.size, 6, none⟩ = some (.int .i64 on) := blk_cell hB.b1 6
  have a7 : w2.cell? ⟨w.heap.size, 7, none⟩ = some (.int .i64 od) := blk_cell hB.b1 7
  have a8 : w2.cell? ⟨w.heap.size, 8, none⟩ = some (.string f8) := blk_cell hB.b1 8
  have b0 : w2.cell? ⟨w.heap.size + 1, 0, none⟩ = some (.int .i64 vn) := blk_cell hB.b2 0
  have b1 : w2.cell? ⟨w.heap.size + 1, 1, none⟩ = some (.int .i64 vd) := blk_cell hB.b2 1
  go_wp2_with fail
  refine (PAdd.whole_Neg.calls on nn true _ hn).mono ?_
  rintro e w3 ⟨rfl, hb3⟩
  replace hB := hB.step hb3.below
  clear hb3
  clear a0 a1 a2 a3 a4 a5 a6 a7 a8 b0 b1
  have a0 : w3.cell? ⟨w.heap.size, 0, none⟩ = some (.string f0) := blk_cell hB.b1 0
  have a1 : w3.cell? ⟨w.heap.size, 1, none⟩ = some (.int .i64 f1) := blk_cell hB.b1 1
  have a2 : w3.cell? ⟨w.heap.size, 2, none⟩ = some (.string f2) := blk_cell hB.b1 2
  have a3 : w3.cell? ⟨w.heap.size, 3, none⟩ = some (.int .i64 f3) := blk_cell hB.b1 3
  have a4 : w3.cell? ⟨w.heap.size, 4, none⟩ = some (.int .i64 sn) := blk_cell hB.b1 4
  have a5 : w3.cell? ⟨w.heap.size, 5, none⟩ = some (.int .i64 sd) := blk_cell hB.b1 5
  have a6 : w3.cell? ⟨w.heap.size, 6, none⟩ = some (.int .i64 on) := blk_cell hB.b1 6
  have a7 : w3.cell? ⟨w.heap.size, 7, none⟩ = some (.int .i64 od) := blk_cell hB.b1 7
  have a8 : w3.cell? ⟨w.heap.size, 8, none⟩ = some (.string f8) := blk_cell hB.b1 8
  have b0 : w3.cell? ⟨w.heap.size + 1, 0, none⟩ = some (.int .i64 vn) := blk_cell hB.b2 0
  have b1 : w3.cell? ⟨w.heap.size + 1, 1, none⟩ = some (.int .i64 vd) := blk_cell hB.b2 1
  go_wp2_with fail
  refine (HX.out _).mono ?_
  rintro e w4 ⟨rfl, hb4⟩
  replace hB := hB.step hb4
  clear hb4
  clear a0 a1 a2 a3 a4 a5 a6 a7 a8 b0 b1
  have h8 := hB.size
  replace hB := hB.step (below_alloc (Below.refl _ _) (.cells #[.int .i64 b1, .int .i64 b2] 29))
  have kx := blk_new w4 (.cells #[.int .i64 b1, .int .i64 b2] 29)
  go_wp2_with fail
  obtain ⟨w5, hw5⟩ : ∃ w5, w5 = w4.alloc (.cells #[.int .i64 b1, .int .i64 b2] 29) := ⟨_, rfl⟩
  obtain ⟨p8, hp8⟩ : ∃ p8, p8 = w4.heap.size := ⟨_, rfl⟩
  rw [← hp8] at h8 kx ⊢
  rw [← hw5] at kx hB ⊢
  clear hw5 hp8
  refine start_ (n := 12) (S := fun wx => B2 w wx (.cells #[.string f0, .int .i64 f1, .string f2, .int .i64 f3, .int .i64 sn, .int .i64 sd, .int .i64 on, .int .i64 od, .string f8] 34) (.cells #[.int .i64 vn, .int .i64 vd] 29) ∧ wx.heap[p8]? = some (.cells #[.int .i64 b1, .int .i64 b2] 29 (0, 0))) (ds := []) #[false, false, false, false, false, false, false, false, false, false, false, false] (by kernel_rfl) rfl rfl ⟨hB.step (below_drew (Below.refl _ _)), blk_drew kx⟩ (fun hHeld => ?_)
  refine take_ (i := 0) (N := some 44) (v := ?_) (a' := ?_) #[true, false, false, false, false, false, false, false, false, false, false, false] rfl rfl (by kernel_rfl) (fun _ _ _ h => h) (Or.inl ⟨by rfl, ?_⟩) hHeld ?_ ?_
  rotate_left
  · rintro w' hh
    have s0 : w'.cell? ⟨w.heap.size, 0, none⟩ = some (.string f0) := blk_cell hh.1.b1 0
    have s1 : w'.cell? ⟨w.heap.size, 1, none⟩ = some (.int .i64 f1) := blk_cell hh.1.b1 1
    have s2 : w'.cell? ⟨w.heap.size, 2, none⟩ = some (.string f2) := blk_cell hh.1.b1 2
    have s3 : w'.cell? ⟨w.heap.size, 3, none⟩ = some (.int .i64 f3) := blk_cell hh.1.b1 3
    have s4 : w'.cell? ⟨w.heap.size, 4, none⟩ = some (.int .i64 sn) := blk_cell hh.1.b1 4
    have s5 : w'.cell? ⟨w.heap.size, 5, none⟩ = some (.int .i64 sd) := blk_cell hh.1.b1 5
    have s6 : w'.cell? ⟨w.heap.size, 6, none⟩ = some (.int .i64 on) := blk_cell hh.1.b1 6
    have s7 : w'.cell? ⟨w.heap.size, 7, none⟩ = some (.int .i64 od) := blk_cell hh.1.b1 7
    have s8 : w'.cell? ⟨w.heap.size, 8, none⟩ = some (.string f8) := blk_cell hh.1.b1 8
    have v0 : w'.cell? ⟨w.heap.size + 1, 0, none⟩ = some (.int .i64 vn) := blk_cell hh.1.b2 0
    have v1 : w'.cell? ⟨w.heap.size + 1, 1, none⟩ = some (.int .i64 vd) := blk_cell hh.1.b2 1
    have u0 : w'.cell? ⟨p8, 0, none⟩ = some (.int .i64 b1) := blk_cell hh.2 0
    have u1 : w'.cell? ⟨p8, 1, none⟩ = some (.int .i64 b2) := blk_cell hh.2 1
    go_simp
    with_reducible rfl
  rotate_left
  · simp only [Act.put, List.setIfInBounds_toArray, List.set_cons_zero, List.set_cons_succ, i64_w, i32_w]
    rfl
  refine pure_ (i := 1) (N := some 45) (v := ?_) (a' := ?_) #[true, true, false, false, false, false, false, false, false, false, false, false] rfl rfl (by kernel_rfl) (fun _ _ _ h => h) (Or.inl ⟨by rfl, ?_⟩) ?_ ?_
  rotate_left
  · intro w'
    go_simp
    try with_reducible rfl
  rotate_left
  · simp only [Act.put, List.setIfInBounds_toArray, List.set_cons_zero, List.set_cons_succ, i64_w, i32_w]
    rfl
  refine pure_ (i := 2) (N := some 46) (v := ?_) (a' := ?_) #[true, true, true, false, false, false, false, false, false, false, false, false] rfl rfl (by kernel_rfl) (fun _ _ _ h => h) (Or.inl ⟨by rfl, ?_⟩) ?_ ?_
  rotate_left
  · intro w'
    go_simp
    try with_reducible rfl
  rotate_left
  · simp only [Act.put, List.setIfInBounds_toArray, List.set_cons_zero, List.set_cons_succ, i64_w, i32_w]
    rfl
  refine pure_ (i := 3) (N := some 47) (v := ?_) (a' := ?_) #[true, true, true, true, false, false, false, false, false, false, false, false] rfl rfl (by kernel_rfl) (fun _ _ _ h => h) (Or.inl ⟨by rfl, ?_⟩) ?_ ?_
  rotate_left
  · intro w'
    go_simp
    try with_reducible rfl
  rotate_left
  · simp only [Act.put, List.setIfInBounds_toArray, List.set_cons_zero, List.set_cons_succ, i64_w, i32_w]
    rfl
  refine pure_ (i := 4) (N := some 48) (v := ?_) (a' := ?_) #[true, true, true, true, true, false, false, false, false, false, false, false] rfl rfl (by kernel_rfl) (fun _ _ _ h => h) (Or.inl ⟨by rfl, ?_⟩) ?_ ?_
  rotate_left
  · intro w'
    go_simp
    try with_reducible rfl
  rotate_left
  · simp only [Act.put, List.setIfInBounds_toArray, List.set_cons_zero, List.set_cons_succ, i64_w, i32_w]
    rfl
  refine take_ (i := 5) (N := some 49) (v := ?_) (a' := ?_) #[true, true, true, true, true, true, false, false, false, false, false, false] rfl rfl (by kernel_rfl) (fun _ _ _ h => h) (Or.inl ⟨by rfl, ?_⟩) hHeld ?_ ?_
  rotate_left
  · rintro w' hh
    have s0 : w'.cell? ⟨w.heap.size, 0, none⟩ = some (.string f0) := blk_cell hh.1.b1 0
    have s1 : w'.cell? ⟨w.heap.size, 1, none⟩ = some (.int .i64 f1) := blk_cell hh.1.b1 1
    have s2 : w'.cell? ⟨w.heap.size, 2, none⟩ = some (.string f2) := blk_cell hh.1.b1 2
    have s3 : w'.cell? ⟨w.heap.size, 3, none⟩ = some (.int .i64 f3) := blk_cell hh.1.b1 3
    have s4 : w'.cell? ⟨w.heap.size, 4, none⟩ = some (.int .i64 sn) := blk_cell hh.1.b1 4
    have s5 : w'.cell? ⟨w.heap.size, 5, none⟩ = some (.int .i64 sd) := blk_cell hh.1.b1 5
    have s6 : w'.cell? ⟨w.heap.size, 6, none⟩ = some (.int .i64 on) := blk_cell hh.1.b1 6
    have s7 : w'.cell? ⟨w.heap.size, 7, none⟩ = some (.int .i64 od) := blk_cell hh.1.b1 7
    have s8 : w'.cell? ⟨w.heap.size, 8, none⟩ = some (.string f8) := blk_cell hh.1.b1 8
    have v0 : w'.cell? ⟨w.heap.size + 1, 0, none⟩ = some (.int .i64 vn) := blk_cell hh.1.b2 0
    have v1 : w'.cell? ⟨w.heap.size + 1, 1, none⟩ = some (.int .i64 vd) := blk_cell hh.1.b2 1
    have u0 : w'.cell? ⟨p8, 0, none⟩ = some (.int .i64 b1) := blk_cell hh.2 0
    have u1 : w'.cell? ⟨p8, 1, none⟩ = some (.int .i64 b2) := blk_cell hh.2 1
    go_simp
    with_reducible rfl
  rotate_left
  · simp only [Act.put, List.setIfInBounds_toArray, List.set_cons_zero, List.set_cons_succ, i64_w, i32_w]
    rfl
  refine pure_ (i := 6) (N := some 50) (v := ?_) (a' := ?_) #[true, true, true, true, true, true, true, false, false, false, false, false] rfl rfl (by kernel_rfl) (fun _ _ _ h => h) (Or.inl ⟨by rfl, ?_⟩) ?_ ?_
  rotate_left
  · intro w'
    go_simp
    try with_reducible rfl
  rotate_left
  · simp only [Act.put, List.setIfInBounds_toArray, List.set_cons_zero, List.set_cons_succ, i64_w, i32_w]
    rfl
  refine take_ (i := 8) (N := some 52) (v := ?_) (a' := ?_) #[true, true, true, true, true, true, true, false, true, false, false, false] rfl rfl (by kernel_rfl) (fun _ _ _ h => h) (Or.inl ⟨by rfl, ?_⟩) hHeld ?_ ?_
  rotate_left
  · rintro w' hh
    have s0 : w'.cell? ⟨w.heap.size, 0, none⟩ = some (.string f0) := blk_cell hh.1.b1 0
    have s1 : w'.cell? ⟨w.heap.size, 1, none⟩ = some (.int .i64 f1) := blk_cell hh.1.b1 1
    have s2 : w'.cell? ⟨w.heap.size, 2, none⟩ = some (.string f2) := blk_cell hh.1.b1 2
    have s3 : w'.cell? ⟨w.heap.size, 3, none⟩ = some (.int .i64 f3) := blk_cell hh.1.b1 3
    have s4 : w'.cell? ⟨w.heap.size, 4, none⟩ = some (.int .i64 sn) := blk_cell hh.1.b1 4
    have s5 : w'.cell? ⟨w.heap.size, 5, none⟩ = some (.int .i64 sd) := blk_cell hh.1.b1 5
    have s6 : w'.cell? ⟨w.heap.size, 6, none⟩ = some (.int .i64 on) := blk_cell hh.1.b1 6
    have s7 : w'.cell? ⟨w.heap.size, 7, none⟩ = some (.int .i64 od) := blk_cell hh.1.b1 7
    have s8 : w'.cell? ⟨w.heap.size, 8, none⟩ = some (.string f8) := blk_cell hh.1.b1 8
    have v0 : w'.cell? ⟨w.heap.size + 1, 0, none⟩ = some (.int .i64 vn) := blk_cell hh.1.b2 0
    have v1 : w'.cell? ⟨w.heap.size + 1, 1, none⟩ = some (.int .i64 vd) := blk_cell hh.1.b2 1
    have u0 : w'.cell? ⟨p8, 0, none⟩ = some (.int .i64 b1) := blk_cell hh.2 0
    have u1 : w'.cell? ⟨p8, 1, none⟩ = some (.int .i64 b2) := blk_cell hh.2 1
    go_simp
    with_reducible rfl
  rotate_left
  · simp only [Act.put, List.setIfInBounds_toArray, List.set_cons_zero, List.set_cons_succ, i64_w, i32_w]
    rfl
  refine join_ (σ := Nat) 1 #[true, true, true, true, true, true, true, true, true, true, true, false] (fun s => [(51, .agg #[.int .i64 r1, .int .i64 r2, .int .i64 r3]), (53, .agg #[.int .i64 q1, .int .i64 q2, .int .i64 q3]), (10, .pointer (some ⟨s, 0, none⟩))]) (fun s wx => (B2 w wx (.cells #[.string f0, .int .i64 f1, .string f2, .int .i64 f3, .int .i64 sn, .int .i64 sd, .int .i64 on, .int .i64 od, .string f8] 34) (.cells #[.int .i64 vn, .int .i64 vd] 29) ∧ wx.heap[p8]? = some (.cells #[.int .i64 b1, .int .i64 b2] 29 (0, 0))) ∧ wx.heap[s]? = some (.cells #[.int .i64 0, .int .i64 0, .int .i64 0] 93 (0, 0)) ∧ p8 + 1 ≤ s ∧ True) ?_ ?hall
  case hall =>
    intro hj_7_9_10
    refine join_ (σ := Nat) 2 #[true, true, true, true, true, true, true, true, true, true, false, false] (fun s => [(51, .agg #[.int .i64 r1, .int .i64 r2, .int .i64 r3]), (53, .agg #[.int .i64 q1, .int .i64 q2, .int .i64 q3])]) (fun s wx => (B2 w wx (.cells #[.string f0, .int .i64 f1, .string f2, .int .i64 f3, .int .i64 sn, .int .i64 sd, .int .i64 on, .int .i64 od, .string f8] 34) (.cells #[.int .i64 vn, .int .i64 vd] 29) ∧ wx.heap[p8]? = some (.cells #[.int .i64 b1, .int .i64 b2] 29 (0, 0))) ∧ True) ?c_7_9 ?_
    case c_7_9 =>
      rintro p10 wN hF
      obtain ⟨hHeld, _⟩ := hF
      refine norm_ (a' := ?_) ?_ ?_
      rotate_left
      · simp only [putAll, Act.put, List.setIfInBounds_toArray, List.set_cons_zero, List.set_cons_succ, i64_w, i32_w]
        rfl
      refine one_ (i := 10) (N := some 10) #[true, true, true, true, true, true, true, true, true, true, true, false] rfl rfl (by kernel_rfl) (by decide) (fun K hK => ?_)
      refine box_step (by rfl) (N := 10) rfl (cs := #[.int .i64 0, .int .i64 0, .int .i64 0]) (t := 93) ?_ ?_
      · first
          | (go_simp; done)
          | (go_simp; rfl)
      intro p10 hp_ w_ hbox_ hB_
      have hS_ := And.intro (hHeld.1.step hB_) (blk_below hHeld.2 hB_)
      have hz_ := blk_lt hHeld.2
      refine hK.out _ _ hS_ (fun hHeld_ => ?_)
      clear hK K
      exact norm_ (by rfl) (hj_7_9_10 (p10) w_ ⟨hS_, hbox_, by show p8 + 1 ≤ p10; omega, trivial⟩)
    intro hj_7_9
    refine join_ (σ := Nat) 2 #[true, true, true, true, true, true, true, true, true, false, true, false] (fun s => [(51, .agg #[.int .i64 r1, .int .i64 r2, .int .i64 r3]), (10, .pointer (some ⟨s, 0, none⟩))]) (fun s wx => (B2 w wx (.cells #[.string f0, .int .i64 f1, .string f2, .int .i64 f3, .int .i64 sn, .int .i64 sd, .int .i64 on, .int .i64 od, .string f8] 34) (.cells #[.int .i64 vn, .int .i64 vd] 29) ∧ wx.heap[p8]? = some (.cells #[.int .i64 b1, .int .i64 b2] 29 (0, 0))) ∧ wx.heap[s]? = some (.cells #[.int .i64 0, .int .i64 0, .int .i64 0] 93 (0, 0)) ∧ p8 + 1 ≤ s ∧ True) ?c_7_10 ?_
    case c_7_10 =>
      rintro p10 wN hF
      obtain ⟨hHeld, hb10, hl10, _⟩ := hF
      replace hb10 : wN.heap[p10]? = some (.cells #[.int .i64 0, .int .i64 0, .int .i64 0] 93 (0, 0)) := hb10
      replace hl10 : p8 + 1 ≤ p10 := hl10
      refine norm_ (a' := ?_) ?_ ?_
      rotate_left
      · simp only [putAll, Act.put, List.setIfInBounds_toArray, List.set_cons_zero, List.set_cons_succ, i64_w, i32_w]
        rfl
      refine one_ (i := 9) (N := some 53) #[true, true, true, true, true, true, true, true, true, true, true, false] rfl rfl (by kernel_rfl) (by decide) (fun K hK => ?_)
      refine goes_ Try.func53 (by kernel_rfl) rfl #[.agg #[.int .i64 r1, .int .i64 r2, .int .i64 r3], .agg #[.int .i64 b1, .int .i64 b2]] (by rfl) rfl rfl (by (try simp only [List.map_toArray, List.map_cons, List.map_nil]); first | done | rfl) ?_
      refine (HT.out _).mono ?_
      rintro e_ w_ ⟨rfl, hb_⟩
      refine ⟨_, rfl, ?_⟩
      have hS_ := And.intro (hHeld.1.step hb_) (blk_below hHeld.2 hb_)
      refine hK.out _ _ hS_ (fun hHeld_ => ?_)
      clear hK K
      exact norm_ (by rfl) (hj_7_9_10 (p10) w_ ⟨hS_, blk_below hb10 hb_, hl10, trivial⟩)
    intro hj_7_10
    refine join_ (σ := Nat) 3 #[true, true, true, true, true, true, true, true, true, false, false, false] (fun s => [(51, .agg #[.int .i64 r1, .int .i64 r2, .int .i64 r3])]) (fun s wx => (B2 w wx (.cells #[.string f0, .int .i64 f1, .string f2, .int .i64 f3, .int .i64 sn, .int .i64 sd, .int .i64 on, .int .i64 od, .string f8] 34) (.cells #[.int .i64 vn, .int .i64 vd] 29) ∧ wx.heap[p8]? = some (.cells #[.int .i64 b1, .int .i64 b2] 29 (0, 0))) ∧ True) ?c_7 ?_
    case c_7 =>
      rintro p10 wN hF
      obtain ⟨hHeld, _⟩ := hF
      refine norm_ (a' := ?_) ?_ ?_
      rotate_left
      · simp only [putAll, Act.put, List.setIfInBounds_toArray, List.set_cons_zero, List.set_cons_succ, i64_w, i32_w]
        rfl
      refine two_ (i := 9) (j := 10) (Ni := some 53) (Nj := some 10) #[true, true, true, true, true, true, true, true, true, true, false, false] #[true, true, true, true, true, true, true, true, true, false, true, false] rfl rfl rfl rfl (by kernel_rfl) (by decide) (by decide) (fun K hK => ?_) (fun K hK => ?_)
      · refine goes_ Try.func53 (by kernel_rfl) rfl #[.agg #[.int .i64 r1, .int .i64 r2, .int .i64 r3], .agg #[.int .i64 b1, .int .i64 b2]] (by rfl) rfl rfl (by (try simp only [List.map_toArray, List.map_cons, List.map_nil]); first | done | rfl) ?_
        refine (HT.out _).mono ?_
        rintro e_ w_ ⟨rfl, hb_⟩
        refine ⟨_, rfl, ?_⟩
        have hS_ := And.intro (hHeld.1.step hb_) (blk_below hHeld.2 hb_)
        refine hK.out _ _ hS_ (fun hHeld_ => ?_)
        clear hK K
        exact norm_ (by rfl) (hj_7_9 (0) w_ ⟨hS_, trivial⟩)
      · refine box_step (by rfl) (N := 10) rfl (cs := #[.int .i64 0, .int .i64 0, .int .i64 0]) (t := 93) ?_ ?_
        · first
            | (go_simp; done)
            | (go_simp; rfl)
        intro p10 hp_ w_ hbox_ hB_
        have hS_ := And.intro (hHeld.1.step hB_) (blk_below hHeld.2 hB_)
        have hz_ := blk_lt hHeld.2
        refine hK.out _ _ hS_ (fun hHeld_ => ?_)
        clear hK K
        exact norm_ (by rfl) (hj_7_10 (p10) w_ ⟨hS_, hbox_, by show p8 + 1 ≤ p10; omega, trivial⟩)
    intro hj_7
    refine join_ (σ := Nat) 3 #[true, true, true, true, true, true, true, false, true, false, true, false] (fun s => [(10, .pointer (some ⟨s, 0, none⟩))]) (fun s wx => (B2 w wx (.cells #[.string f0, .int .i64 f1, .string f2, .int .i64 f3, .int .i64 sn, .int .i64 sd, .int .i64 on, .int .i64 od, .string f8] 34) (.cells #[.int .i64 vn, .int .i64 vd] 29) ∧ wx.heap[p8]? = some (.cells #[.int .i64 b1, .int .i64 b2] 29 (0, 0))) ∧ wx.heap[s]? = some (.cells #[.int .i64 0, .int .i64 0, .int .i64 0] 93 (0, 0)) ∧ p8 + 1 ≤ s ∧ True) ?c_10 ?_
    case c_10 =>
      rintro p10 wN hF
      obtain ⟨hHeld, hb10, hl10, _⟩ := hF
      replace hb10 : wN.heap[p10]? = some (.cells #[.int .i64 0, .int .i64 0, .int .i64 0] 93 (0, 0)) := hb10
      replace hl10 : p8 + 1 ≤ p10 := hl10
      refine norm_ (a' := ?_) ?_ ?_
      rotate_left
      · simp only [putAll, Act.put, List.setIfInBounds_toArray, List.set_cons_zero, List.set_cons_succ, i64_w, i32_w]
        rfl
      refine one_ (i := 7) (N := some 51) #[true, true, true, true, true, true, true, true, true, false, true, false] rfl rfl (by kernel_rfl) (by decide) (fun K hK => ?_)
      refine goes_ Try.func54 (by kernel_rfl) rfl #[.agg #[.int .i64 vn, .int .i64 vd, .int .i64 0], .agg #[.int .i64 nn, .int .i64 od]] (by rfl) rfl rfl (by (try simp only [List.map_toArray, List.map_cons, List.map_nil]); first | done | rfl) ?_
      refine (HP.out _).mono ?_
      rintro e_ w_ ⟨rfl, hb_⟩
      refine ⟨_, rfl, ?_⟩
      have hS_ := And.intro (hHeld.1.step hb_) (blk_below hHeld.2 hb_)
      refine hK.out _ _ hS_ (fun hHeld_ => ?_)
      clear hK K
      exact norm_ (by rfl) (hj_7_10 (p10) w_ ⟨hS_, blk_below hb10 hb_, hl10, trivial⟩)
    intro hj_10
    refine two_ (i := 7) (j := 10) (Ni := some 51) (Nj := some 10) #[true, true, true, true, true, true, true, true, true, false, false, false] #[true, true, true, true, true, true, true, false, true, false, true, false] rfl rfl rfl rfl (by kernel_rfl) (by decide) (by decide) (fun K hK => ?_) (fun K hK => ?_)
    · refine goes_ Try.func54 (by kernel_rfl) rfl #[.agg #[.int .i64 vn, .int .i64 vd, .int .i64 0], .agg #[.int .i64 nn, .int .i64 od]] (by rfl) rfl rfl (by (try simp only [List.map_toArray, List.map_cons, List.map_nil]); first | done | rfl) ?_
      refine (HP.out _).mono ?_
      rintro e_ w_ ⟨rfl, hb_⟩
      refine ⟨_, rfl, ?_⟩
      have hS_ := And.intro (hHeld.1.step hb_) (blk_below hHeld.2 hb_)
      refine hK.out _ _ hS_ (fun hHeld_ => ?_)
      clear hK K
      exact norm_ (by rfl) (hj_7 (0) w_ ⟨hS_, trivial⟩)
    · refine box_step (by rfl) (N := 10) rfl (cs := #[.int .i64 0, .int .i64 0, .int .i64 0]) (t := 93) ?_ ?_
      · first
          | (go_simp; done)
          | (go_simp; rfl)
      intro p10 hp_ w_ hbox_ hB_
      have hS_ := And.intro (hHeld.1.step hB_) (blk_below hHeld.2 hB_)
      have hz_ := blk_lt hHeld.2
      refine hK.out _ _ hS_ (fun hHeld_ => ?_)
      clear hK K
      exact norm_ (by rfl) (hj_10 (p10) w_ ⟨hS_, hbox_, by show p8 + 1 ≤ p10; omega, trivial⟩)
  clear hHeld
  rintro p10 wN hF
  obtain ⟨hHeld, hb10, hl10, _⟩ := hF
  replace hb10 : wN.heap[p10]? = some (.cells #[.int .i64 0, .int .i64 0, .int .i64 0] 93 (0, 0)) := hb10
  replace hl10 : p8 + 1 ≤ p10 := hl10
  refine norm_ (a' := ?_) ?_ ?_
  rotate_left
  · simp only [putAll, Act.put, List.setIfInBounds_toArray, List.set_cons_zero, List.set_cons_succ, i64_w, i32_w]
    rfl
  have c0 : wN.cell? ⟨p10, 0, none⟩ = some (.int .i64 0) := blk_cell hb10 0
  have cf0 : wN.frozen? ⟨p10, 0, none⟩ = false := blk_frozen hb10 0
  have c1 : wN.cell? ⟨p10, 1, none⟩ = some (.int .i64 0) := blk_cell hb10 1
  have cf1 : wN.frozen? ⟨p10, 1, none⟩ = false := blk_frozen hb10 1
  have c2 : wN.cell? ⟨p10, 2, none⟩ = some (.int .i64 0) := blk_cell hb10 2
  have cf2 : wN.frozen? ⟨p10, 2, none⟩ = false := blk_frozen hb10 2
  have h108 : p8 ≠ p10 := by omega
  have h102 : w.heap.size + 2 ≤ p10 := by omega
  refine one_ (i := 11) (N := none) #[true, true, true, true, true, true, true, true, true, true, true, true] rfl rfl (by kernel_rfl) (by decide) (fun K hK => ?_)
  refine skip_ (w1 := ((wN.setCell ⟨p10, 0, none⟩ (.int .i64 q1)).setCell ⟨p10, 1, none⟩ (.int .i64 q2)).setCell ⟨p10, 2, none⟩ (.int .i64 q3)) (by rfl) rfl ?_ ?_
  · first
    | (go_simp; done)
    | (go_simp; rfl)
  refine hK.out _ _ ⟨(((hHeld.1.far (p := ⟨p10, 0, none⟩) h102 (.int .i64 q1)).far (p := ⟨p10, 1, none⟩) h102 (.int .i64 q2)).far (p := ⟨p10, 2, none⟩) h102 (.int .i64 q3)), (blk_far (blk_far (blk_far hHeld.2 (p := ⟨p10, 0, none⟩) h108 _) (p := ⟨p10, 1, none⟩) h108 _) (p := ⟨p10, 2, none⟩) h108 _)⟩ (fun hHeld => ?_)
  clear hK K
  refine norm_ (a' := ?_) ?_ ?_
  rotate_left
  · rfl
  refine done_ (by kernel_rfl) ?_
  have kx := blk_set (blk_set (blk_set hb10 0 (.int .i64 q1)) 1 (.int .i64 q2)) 2 (.int .i64 q3)
  clear hB
  obtain ⟨w7, hw7⟩ : ∃ w7, w7 = ((wN.setCell ⟨p10, 0, none⟩ (.int .i64 q1)).setCell ⟨p10, 1, none⟩ (.int .i64 q2)).setCell ⟨p10, 2, none⟩ (.int .i64 q3) := ⟨_, rfl⟩
  rw [← hw7] at kx hHeld ⊢
  have hB := hHeld.1
  clear hHeld hw7 hb10 c0 c1 c2 cf0 cf1 cf2
  have c0 : w7.cell? ⟨p10, 0, none⟩ = some (.int .i64 q1) := blk_cell kx 0
  have c1 : w7.cell? ⟨p10, 1, none⟩ = some (.int .i64 q2) := blk_cell kx 1
  have c2 : w7.cell? ⟨p10, 2, none⟩ = some (.int .i64 q3) := blk_cell kx 2
  by_cases h3 : q3 = 0
  · subst h3
    by_cases h2 : q2 = 1
    · subst h2
      go_wp2_with fail
      go_ret2
      exact ⟨rfl, hB.be⟩
    · have e2 : (q2 == 1) = false := by simp [h2]
      have hf : fin (q1, q2, 0) = (0, 6) := by simp [fin, h2]
      have HF := Lib.hid hf
      clear hf
      go_wp2_with fail
      go_ret2
      rw [HF.out]
      exact ⟨rfl, hB.be⟩
  · have e3 : (q3 == 0) = false := by simp [h3]
    have hf : fin (q1, q2, q3) = (0, q3) := by simp [fin, h3]
    have HF := Lib.hid hf
    clear hf
    go_wp2_with fail
    go_region
    have hB9 := below_drew1 hB.be
    go_wp2_with fail
    go_ret2
    rw [HF.out]
    exact ⟨rfl, hB9⟩

/-- The raw number of a value, what went wrong. -/
def rawR (sn sd on od vn vd : Int) : Int × Int :=
  if ¬ ((Rt sn sd ∧ Rt on od) ∧ Rt vn vd) then (0, 1) else if sn = 0 then (0, 3) else if on = -9223372036854775808 ∨ sn = -9223372036854775808 then (0, 2)
  else fin (timesW (plusW (vn, vd, 0) (-on) od) (over sn sd).1 (over sn sd).2)
set_option maxRecDepth 100000 in
set_option maxHeartbeats 4000000 in
theorem raw_calls (f0 : ByteArray) (f1 : Int) (f2 : ByteArray) (f3 sn sd on od : Int) (f8 : ByteArray) (vn vd : Int) (hsn : I64 sn) (hsd : I64 sd) (hon : I64 on) (hod : I64 od) (hvn : I64 vn) (hvd : I64 vd) (w : World) :
    Calls Try.prog 24 #[.agg #[.string f0, .int .i64 f1, .string f2, .int .i64 f3, .int .i64 sn, .int .i64 sd, .int .i64 on, .int .i64 od, .string f8], .agg #[.int .i64 vn, .int .i64 vd]] w fun e w' => e = .returned (.tuple #[.int .i64 (rawR sn sd on od vn vd).1, .int .i64 (rawR sn sd on od vn vd).2]) ∧ Below w.heap.size w w' := by
  unfold rawR
  by_cases hr : Rt sn sd ∧ Rt on od
  · by_cases hv0 : Rt vn vd
    · rw [if_neg (by simp [hr, hv0])]
      by_cases hz : sn = 0
      · rw [if_pos hz]
        exact raw_zero f0 f1 f2 f3 sn sd on od f8 vn vd hsn hsd hon hod hvn hvd hr hv0 hz w
      · rw [if_neg hz]
        by_cases ho : on = -9223372036854775808 ∨ sn = -9223372036854775808
        · rw [if_pos ho]
          exact raw_over f0 f1 f2 f3 sn sd on od f8 vn vd hsn hsd hon hod hvn hvd hr hv0 hz ho w
        · rw [if_neg ho]
          exact raw_good f0 f1 f2 f3 sn sd on od f8 vn vd hsn hsd hon hod hvn hvd hr hv0 hz (fun h => ho (.inl h)) (fun h => ho (.inr h)) w
    · rw [if_pos (by simp [hv0])]
      exact raw_wrong2 f0 f1 f2 f3 sn sd on od f8 vn vd hsn hsd hon hod hvn hvd hr hv0 w
  · rw [if_pos (by simp [hr])]
    exact raw_wrong1 f0 f1 f2 f3 sn sd on od f8 vn vd hsn hsd hon hod hvn hvd hr w
end Go.Proofs.Ytcldlfhnmkogeaa.Scale

/- What fractions of 64 bits are worth, in plain Lean. -/
set_option linter.unusedVariables false
set_option linter.unusedSimpArgs false
namespace Go.Proofs.Ytcldlfhnmkogeaa.RatPlain

/-- What a fraction is worth. -/
def val (n d : Int) : Rat := Rat.divInt n d
theorem exact (a b : Int) (h : a ∣ b) : a * b.tdiv a = b := Int.mul_tdiv_cancel' h
theorem low_val (n : Int) {d : Int} (h0 : 0 < d) : val (low n d).1 (low n d).2 = val n d := by
  have hg := gcd_pos (a := n) h0
  have e1 := exact _ _ (dvd_left n d)
  have e2 := exact _ _ (dvd_right n d)
  have h := Rat.divInt_mul_left (n := (low n d).1) (d := (low n d).2) (a := ((Int.gcd n d : Nat) : Int)) (by omega)
  unfold val
  rw [← h]
  unfold low
  dsimp only
  rw [e1, e2]
theorem low_Rt (n : Int) {d : Int} (h0 : 0 < d) : Rt (low n d).1 (low n d).2 := by
  have hg := gcd_pos (a := n) h0
  have e1 := exact _ _ (dvd_left n d)
  have e2 := exact _ _ (dvd_right n d)
  refine ⟨exact_pos h0 (dvd_right n d) hg, ?_⟩
  have h := Int.gcd_mul_left (((Int.gcd n d : Nat) : Int)) (low n d).1 (low n d).2
  unfold low at h ⊢
  dsimp only at h ⊢
  rw [e1, e2] at h
  rw [Int.natAbs_natCast] at h
  exact Nat.eq_of_mul_eq_mul_left hg (by omega)
theorem mul_val {an ad bn bd : Int} (ra : Rt an ad) (rb : Rt bn bd) {p : Int × Int} (h : mulR an ad bn bd = some p) : Rt p.1 p.2 ∧ val p.1 p.2 = val an ad * val bn bd := by
  have hg := gcd_pos (a := an) rb.1
  have hh := gcd_pos (a := bn) ra.1
  have e1 := exact _ _ (dvd_left an bd)
  have e2 := exact _ _ (dvd_right an bd)
  have e3 := exact _ _ (dvd_left bn ad)
  have e4 := exact _ _ (dvd_right bn ad)
  have hp : 0 < bd.tdiv (Int.gcd an bd : Nat) * ad.tdiv (Int.gcd bn ad : Nat) :=
    Int.mul_pos (exact_pos rb.1 (dvd_right _ _) (gcd_pos rb.1)) (exact_pos ra.1 (dvd_right _ _) (gcd_pos ra.1))
  simp only [mulR] at h
  split at h
  · cases h
    refine ⟨low_Rt _ hp, ?_⟩
    rw [low_val _ hp]
    unfold val
    rw [Rat.divInt_mul_divInt]
    generalize an.tdiv (Int.gcd an bd : Nat) = xa at *
    generalize bd.tdiv (Int.gcd an bd : Nat) = xb at *
    generalize bn.tdiv (Int.gcd bn ad : Nat) = ya at *
    generalize ad.tdiv (Int.gcd bn ad : Nat) = yb at *
    generalize ((Int.gcd an bd : Nat) : Int) = g at *
    generalize ((Int.gcd bn ad : Nat) : Int) = k at *
    have hz : g * k ≠ 0 := by
      intro hz
      rcases Int.mul_eq_zero.1 hz with h | h
      · subst h; simp at e2; have := rb.1; omega
      · subst h; simp at e4; have := ra.1; omega
    rw [← Rat.divInt_mul_left hz]
    congr 1
    · rw [← e1, ← e3]; grind
    · rw [← e2, ← e4]; grind
  · cases h
theorem add_val {an ad bn bd : Int} (ra : Rt an ad) (rb : Rt bn bd) {p : Int × Int} (h : addR an ad bn bd = some p) : Rt p.1 p.2 ∧ val p.1 p.2 = val an ad + val bn bd := by
  have hg := gcd_pos (a := ad) rb.1
  have e1 := exact _ _ (dvd_left ad bd)
  have e2 := exact _ _ (dvd_right ad bd)
  have hp : 0 < ad * bd.tdiv (Int.gcd ad bd : Nat) := Int.mul_pos ra.1 (exact_pos rb.1 (dvd_right _ _) (gcd_pos rb.1))
  simp only [addR] at h
  split at h
  · cases h
    refine ⟨low_Rt _ hp, ?_⟩
    rw [low_val _ hp]
    unfold val
    rw [Rat.divInt_add_divInt _ _ (by have := ra.1; omega) (by have := rb.1; omega)]
    generalize ad.tdiv (Int.gcd ad bd : Nat) = xa at *
    generalize bd.tdiv (Int.gcd ad bd : Nat) = xb at *
    generalize ((Int.gcd ad bd : Nat) : Int) = g at *
    have hz : g ≠ 0 := by
      intro hz
      subst hz; simp at e2; have := rb.1; omega
    rw [← Rat.divInt_mul_left hz]
    congr 1
    · rw [← e1, ← e2]; grind
    · rw [← e2]; grind
  · cases h
theorem val_num {n d : Int} (h : Rt n d) : (val n d).num = n := by
  unfold val
  rw [Rat.num_divInt, Int.gcd_comm, h.2, Int.sign_eq_one_of_pos h.1]
  simp
theorem val_den {n d : Int} (h : Rt n d) : ((val n d).den : Int) = d := by
  have h0 := h.1
  unfold val
  rw [Rat.den_divInt, Int.gcd_comm, h.2, if_neg (by omega)]
  omega
theorem val_inj {an ad bn bd : Int} (ra : Rt an ad) (rb : Rt bn bd) (h : val an ad = val bn bd) : an = bn ∧ ad = bd := by
  refine ⟨?_, ?_⟩
  · rw [← val_num ra, ← val_num rb, h]
  · rw [← val_den ra, ← val_den rb, h]
theorem val_lt {an ad bn bd : Int} (ra : Rt an ad) (rb : Rt bn bd) : val an ad < val bn bd ↔ an * bd < bn * ad := by
  rw [Rat.lt_iff, val_num ra, val_num rb, val_den ra, val_den rb]
theorem Rt_one (n : Int) : Rt n 1 := ⟨by decide, by simp⟩
theorem val_neg (n d : Int) : val (-n) d = - val n d := by
  unfold val
  rw [Rat.neg_divInt]
theorem Rt_neg {n d : Int} (h : Rt n d) : Rt (-n) d := ⟨h.1, by rw [Int.neg_gcd]; exact h.2⟩
theorem val_zero {n d : Int} (h : Rt n d) : val n d = 0 ↔ n = 0 := by
  constructor
  · intro h0
    rw [← val_num h, h0]
    rfl
  · intro h0
    subst h0
    unfold val
    simp
end Go.Proofs.Ytcldlfhnmkogeaa.RatPlain

/- What values and raw numbers are worth, in plain Lean. -/
set_option linter.unusedVariables false
set_option linter.unusedSimpArgs false
namespace Go.Proofs.Ytcldlfhnmkogeaa.Scale
open Go.Proofs.Ytcldlfhnmkogeaa.RatPlain

theorem told_cases (P : Prop) [Decidable P] (r : Option (Int × Int)) : (told P r = (0, 0, 1) ∧ ¬ P) ∨ (P ∧ r = none ∧ told P r = (0, 0, 2)) ∨ (P ∧ ∃ p, r = some p ∧ told P r = (p.1, p.2, 0)) := by
  unfold told
  by_cases h : P
  · rw [if_pos h]
    cases r with
    | none => exact .inr (.inl ⟨h, rfl, rfl⟩)
    | some p => exact .inr (.inr ⟨h, p, rfl, rfl⟩)
  · rw [if_neg h]
    exact .inl ⟨rfl, h⟩
/-- A step: it was wrong before, it goes wrong, or it is worth what it is to be. -/
theorem timesW_cases (r : Int × Int × Int) (bn bd : Int) (hb : Rt bn bd) : (r.2.2 ≠ 0 ∧ timesW r bn bd = r) ∨ (r.2.2 = 0 ∧ ¬ Rt r.1 r.2.1 ∧ timesW r bn bd = (0, 0, 1)) ∨ (r.2.2 = 0 ∧ timesW r bn bd = (0, 0, 2)) ∨
    (r.2.2 = 0 ∧ ∃ n d, timesW r bn bd = (n, d, 0) ∧ Rt n d ∧ val n d = val r.1 r.2.1 * val bn bd) := by
  unfold timesW
  by_cases h : r.2.2 = 0
  · rw [if_pos h]
    rcases told_cases (Rt r.1 r.2.1 ∧ Rt bn bd) (mulR r.1 r.2.1 bn bd) with ⟨h1, h2⟩ | ⟨h1, h2, h3⟩ | ⟨h1, p, h2, h3⟩
    · exact .inr (.inl ⟨h, fun h4 => h2 ⟨h4, hb⟩, h1⟩)
    · exact .inr (.inr (.inl ⟨h, h3⟩))
    · have := mul_val h1.1 h1.2 h2
      exact .inr (.inr (.inr ⟨h, p.1, p.2, h3, this.1, this.2⟩))
  · rw [if_neg h]
    exact .inl ⟨h, rfl⟩
theorem plusW_cases (r : Int × Int × Int) (bn bd : Int) (hb : Rt bn bd) : (r.2.2 ≠ 0 ∧ plusW r bn bd = r) ∨ (r.2.2 = 0 ∧ ¬ Rt r.1 r.2.1 ∧ plusW r bn bd = (0, 0, 1)) ∨ (r.2.2 = 0 ∧ plusW r bn bd = (0, 0, 2)) ∨
    (r.2.2 = 0 ∧ ∃ n d, plusW r bn bd = (n, d, 0) ∧ Rt n d ∧ val n d = val r.1 r.2.1 + val bn bd) := by
  unfold plusW
  by_cases h : r.2.2 = 0
  · rw [if_pos h]
    rcases told_cases (Rt r.1 r.2.1 ∧ Rt bn bd) (addR r.1 r.2.1 bn bd) with ⟨h1, h2⟩ | ⟨h1, h2, h3⟩ | ⟨h1, p, h2, h3⟩
    · exact .inr (.inl ⟨h, fun h4 => h2 ⟨h4, hb⟩, h1⟩)
    · exact .inr (.inr (.inl ⟨h, h3⟩))
    · have := add_val h1.1 h1.2 h2
      exact .inr (.inr (.inr ⟨h, p.1, p.2, h3, this.1, this.2⟩))
  · rw [if_neg h]
    exact .inl ⟨h, rfl⟩
/-- A value: wrong, beyond, or worth the raw number times the scale, and the offset. -/
theorem value_cases (sn sd on od raw : Int) : (¬ (Rt sn sd ∧ Rt on od) ∧ valueR sn sd on od raw = (0, 0, 1)) ∨ ((Rt sn sd ∧ Rt on od) ∧ valueR sn sd on od raw = (0, 0, 2)) ∨
    ((Rt sn sd ∧ Rt on od) ∧ ∃ n d, valueR sn sd on od raw = (n, d, 0) ∧ Rt n d ∧ val n d = val raw 1 * val sn sd + val on od) := by
  unfold valueR
  by_cases h : Rt sn sd ∧ Rt on od
  · rw [if_pos h]
    rcases timesW_cases (raw, 1, 0) sn sd h.1 with ⟨h1, _⟩ | ⟨_, h1, _⟩ | ⟨_, h1⟩ | ⟨_, n, d, h1, h2, h3⟩
    · exact absurd rfl h1
    · exact absurd (Rt_one raw) h1
    · rw [h1]
      exact .inr (.inl ⟨h, rfl⟩)
    · rw [h1]
      rcases plusW_cases (n, d, 0) on od h.2 with ⟨k1, _⟩ | ⟨_, k1, _⟩ | ⟨_, k1⟩ | ⟨_, n2, d2, k1, k2, k3⟩
      · exact absurd rfl k1
      · exact absurd h2 k1
      · exact .inr (.inl ⟨h, k1⟩)
      · refine .inr (.inr ⟨h, n2, d2, k1, k2, ?_⟩)
        rw [k3]
        dsimp only
        rw [h3]
  · rw [if_neg h]
    exact .inl ⟨h, rfl⟩
theorem value_err {sn sd on od raw v1 v2 v3 : Int} (h : valueR sn sd on od raw = (v1, v2, v3)) (h3 : v3 ≠ 0) : v1 = 0 ∧ v2 = 0 := by
  rcases value_cases sn sd on od raw with ⟨_, k⟩ | ⟨_, k⟩ | ⟨_, n, d, k, _⟩ <;> rw [k] at h <;> cases h
  · exact ⟨rfl, rfl⟩
  · exact ⟨rfl, rfl⟩
  · exact absurd rfl h3
theorem value_ok {sn sd on od raw v1 v2 : Int} (h : valueR sn sd on od raw = (v1, v2, 0)) : Rt sn sd ∧ Rt on od ∧ Rt v1 v2 ∧ val v1 v2 = val raw 1 * val sn sd + val on od := by
  rcases value_cases sn sd on od raw with ⟨_, k⟩ | ⟨_, k⟩ | ⟨hr, n, d, k, k2, k3⟩ <;> rw [k] at h <;> cases h
  exact ⟨hr.1, hr.2, k2, k3⟩
theorem over_Rt {sn sd : Int} (h : Rt sn sd) (hz : sn ≠ 0) : Rt (over sn sd).1 (over sn sd).2 ∧ val (over sn sd).1 (over sn sd).2 * val sn sd = 1 := by
  have h0 := h.1
  have hv : val sd sn * val sn sd = 1 := by
    unfold val
    rw [Rat.divInt_mul_divInt, Int.mul_comm]
    exact Rat.divInt_self' (Int.mul_ne_zero hz (by omega))
  unfold over
  by_cases hs : sn > 0
  · rw [if_pos hs]
    exact ⟨⟨hs, by rw [Int.gcd_comm]; exact h.2⟩, hv⟩
  · rw [if_neg hs]
    refine ⟨⟨by dsimp only; omega, by rw [Int.neg_gcd, Int.gcd_neg, Int.gcd_comm]; exact h.2⟩, ?_⟩
    have : val (-sd) (-sn) = val sd sn := Rat.neg_divInt_neg _ _
    rw [this]
    exact hv
/-- The raw number of a value of a raw number. -/
theorem raw_back {sn sd on od raw v1 v2 : Int} (h : valueR sn sd on od raw = (v1, v2, 0)) :
    (sn = 0 → rawR sn sd on od v1 v2 = (0, 3) ∧ v1 = on ∧ v2 = od) ∧ (sn ≠ 0 → rawR sn sd on od v1 v2 = (raw, 0) ∨ rawR sn sd on od v1 v2 = (0, 2)) := by
  obtain ⟨hs, ho, hv, hval⟩ := value_ok h
  have hn : ¬ ¬ ((Rt sn sd ∧ Rt on od) ∧ Rt v1 v2) := fun hn => hn ⟨⟨hs, ho⟩, hv⟩
  unfold rawR
  rw [if_neg hn]
  refine ⟨fun hz => ?_, fun hz => ?_⟩
  · rw [if_pos hz]
    refine ⟨rfl, ?_⟩
    have h0 : val sn sd = 0 := (val_zero hs).2 hz
    rw [h0] at hval
    exact val_inj hv ho (by rw [hval]; grind)
  · rw [if_neg hz]
    split
    · exact .inr rfl
    · obtain ⟨hb, hov⟩ := over_Rt hs hz
      rcases plusW_cases (v1, v2, 0) (-on) od (Rt_neg ho) with ⟨k1, _⟩ | ⟨_, k1, _⟩ | ⟨_, k1⟩ | ⟨_, n, d, k1, k2, k3⟩
      · exact absurd rfl k1
      · exact absurd hv k1
      · rw [k1]
        exact .inr rfl
      · rw [k1]
        rcases timesW_cases (n, d, 0) (over sn sd).1 (over sn sd).2 hb with ⟨m1, _⟩ | ⟨_, m1, _⟩ | ⟨_, m1⟩ | ⟨_, n2, d2, m1, m2, m3⟩
        · exact absurd rfl m1
        · exact absurd k2 m1
        · rw [m1]
          exact .inr rfl
        · rw [m1]
          left
          have e : val n2 d2 = val raw 1 := by
            rw [m3]
            dsimp only at k3 ⊢
            rw [k3, hval, val_neg]
            grind
          obtain ⟨e1, e2⟩ := val_inj m2 (Rt_one raw) e
          subst e1 e2
          rfl
end Go.Proofs.Ytcldlfhnmkogeaa.Scale


import Derived.Test.YtcldlfhnmkogeaaRefRaw
import Derived.Test.YtcldlfhnmkogeaaScaleLaw
/- The law ScaleRaws, walked. -/
set_option linter.unusedVariables false
set_option linter.unusedSimpArgs false
namespace Go.Proofs.Ytcldlfhnmkogeaa.ScaleRawsWalk
open Go.RowKit Go.Proofs.YtcldlfhnmkogeaaW.PrintWords Go.Proofs.YtcldlfhnmkogeaaW.PrintLast Go.Proofs.Ytcldlfhnmkogeaa.Nats Go.Proofs.Ytcldlfhnmkogeaa.HeapKit Go.Proofs.Ytcldlfhnmkogeaa.RatPlain Go.Proofs.Ytcldlfhnmkogeaa.Scale Go.Proofs.Ytcldlfhnmkogeaa.RefWalk
open Go.Proofs.Ytcldlfhnmkogeaa.RefRaw
theorem refraw_calls (f0 : ByteArray) (f1 : Int) (f2 : ByteArray) (f3 sn sd on od : Int) (f8 : ByteArray) (vn vd : Int) (hsn : I64 sn) (hsd : I64 sd) (hon : I64 on) (hod : I64 od) (hvn : I64 vn) (hvd : I64 vd) (w : World) :
    Calls Try.prog 26 #[.agg #[.string f0, .int .i64 f1, .string f2, .int .i64 f3, .int .i64 sn, .int .i64 sd, .int .i64 on, .int .i64 od, .string f8], .agg #[.int .i64 vn, .int .i64 vd]] w fun e w' => e = .returned (.tuple #[.int .i64 (rawR sn sd on od vn vd).1, .int .i64 (rawR sn sd on od vn vd).2]) ∧ Below w.heap.size w w' := by
  by_cases h : Rt sn sd
  · by_cases h2 : Rt on od
    · by_cases h3 : Rt vn vd
      · by_cases hz : sn = 0
        · have e : rawR sn sd on od vn vd = (0, 3) := by
            unfold rawR
            rw [if_neg (fun k => k ⟨⟨h, h2⟩, h3⟩), if_pos hz]
          rw [e]
          exact zero f0 f1 f2 f3 sn sd on od f8 vn vd hsn hsd hon hod hvn hvd h h2 h3 hz w
        · by_cases ho : on = -9223372036854775808
          · have e : rawR sn sd on od vn vd = (0, 2) := by
              unfold rawR
              rw [if_neg (fun k => k ⟨⟨h, h2⟩, h3⟩), if_neg hz, if_pos (.inl ho)]
            rw [e]
            exact beyond1 f0 f1 f2 f3 sn sd on od f8 vn vd hsn hsd hon hod hvn hvd h h2 h3 hz ho w
          · by_cases hs : sn = -9223372036854775808
            · have e : rawR sn sd on od vn vd = (0, 2) := by
                unfold rawR
                rw [if_neg (fun k => k ⟨⟨h, h2⟩, h3⟩), if_neg hz, if_pos (.inr hs)]
              rw [e]
              exact beyond2 f0 f1 f2 f3 sn sd on od f8 vn vd hsn hsd hon hod hvn hvd h h2 h3 ho hs w
            · by_cases hu : 0 < sn
              · exact good_up f0 f1 f2 f3 sn sd on od f8 vn vd hsn hsd hon hod hvn hvd h h2 h3 hz ho hs hu w
              · exact good_down f0 f1 f2 f3 sn sd on od f8 vn vd hsn hsd hon hod hvn hvd h h2 h3 hz ho hs (by omega) w
      · have e : rawR sn sd on od vn vd = (0, 1) := by
          unfold rawR
          rw [if_pos (fun k => h3 k.2)]
        rw [e]
        exact wrong3 f0 f1 f2 f3 sn sd on od f8 vn vd hsn hsd hon hod hvn hvd h h2 h3 w
    · have e : rawR sn sd on od vn vd = (0, 1) := by
        unfold rawR
        rw [if_pos (fun k => h2 k.1.2)]
      rw [e]
      exact wrong2 f0 f1 f2 f3 sn sd on od f8 vn vd hsn hsd hon hod hvn hvd h h2 w
  · have e : rawR sn sd on od vn vd = (0, 1) := by
      unfold rawR
      rw [if_pos (fun k => h k.1.1)]
    rw [e]
    exact wrong1 f0 f1 f2 f3 sn sd on od f8 vn vd hsn hsd hon hod hvn hvd h w

set_option maxRecDepth 100000 in
set_option maxHeartbeats 4000000 in
theorem walk (f0 : ByteArray) (f1 : Int) (f2 : ByteArray) (f3 sn sd on od : Int) (f8 : ByteArray) (vn vd : Int) (hsn : I64 sn) (hsd : I64 sd) (hon : I64 on) (hod : I64 od) (hvn : I64 vn) (hvd : I64 vd) (w : World) :
    Calls Try.prog 4 #[.agg #[.string f0, .int .i64 f1, .string f2, .int .i64 f3, .int .i64 sn, .int .i64 sd, .int .i64 on, .int .i64 od, .string f8], .agg #[.int .i64 vn, .int .i64 vd]] w fun e w' => e = .returned (.bool true) ∧ Below w.heap.size w w' := by
  have hc := fun w => raw_calls f0 f1 f2 f3 sn sd on od f8 vn vd hsn hsd hon hod hvn hvd w
  have hr := fun w => refraw_calls f0 f1 f2 f3 sn sd on od f8 vn vd hsn hsd hon hod hvn hvd w
  obtain ⟨⟨r1, r2⟩, hrr⟩ : ∃ r, rawR sn sd on od vn vd = r := ⟨_, rfl⟩
  simp only [hrr] at hc hr
  have HC := Lib.hid hc
  have HR := Lib.hid hr
  clear hc hr hrr
  go_enter Try.func4, Try.ntmps4
  go_wp2_with fail
  refine (awake_calls _).mono ?_
  rintro e w1 ⟨rfl, hb1⟩
  have hB := (b2_start w (.cells #[.string f0, .int .i64 f1, .string f2, .int .i64 f3, .int .i64 sn, .int .i64 sd, .int .i64 on, .int .i64 od, .string f8] 25) (.cells #[.int .i64 vn, .int .i64 vd] 23)).step hb1
  clear hb1
  have a0 : w1.cell? ⟨w.heap.size, 0, none⟩ = some (.string f0) := blk_cell hB.b1 0
  have a1 : w1.cell? ⟨w.heap.size, 1, none⟩ = some (.int .i64 f1) := blk_cell hB.b1 1
  have a2 : w1.cell? ⟨w.heap.size, 2, none⟩ = some (.string f2) := blk_cell hB.b1 2
  have a3 : w1.cell? ⟨w.heap.size, 3, none⟩ = some (.int .i64 f3) := blk_cell hB.b1 3
  have a4 : w1.cell? ⟨w.heap.size, 4, none⟩ = some (.int .i64 sn) := blk_cell hB.b1 4
  have a5 : w1.cell? ⟨w.heap.size, 5, none⟩ = some (.int .i64 sd) := blk_cell hB.b1 5
  have a6 : w1.cell? ⟨w.heap.size, 6, none⟩ = some (.int .i64 on) := blk_cell hB.b1 6
  have a7 : w1.cell? ⟨w.heap.size, 7, none⟩ = some (.int .i64 od) := blk_cell hB.b1 7
  have a8 : w1.cell? ⟨w.heap.size, 8, none⟩ = some (.string f8) := blk_cell hB.b1 8
  have b0 : w1.cell? ⟨w.heap.size + 1, 0, none⟩ = some (.int .i64 vn) := blk_cell hB.b2 0
  have b1 : w1.cell? ⟨w.heap.size + 1, 1, none⟩ = some (.int .i64 vd) := blk_cell hB.b2 1
  go_wp2_with fail
  refine (few_calls f0 f1 f2 f3 sn sd on od f8 _).mono ?_
  rintro e w2 ⟨he, hb2⟩
  replace hB := hB.step hb2
  clear hb2 a0 a1 a2 a3 a4 a5 a6 a7 a8 b0 b1
  rcases he with rfl | rfl
  · go_wp2_with fail
    refine (awake_calls _).mono ?_
    rintro e w3 ⟨rfl, hb3⟩
    replace hB := hB.step hb3
    go_wp2_with fail
    go_ret
    exact ⟨rfl, hB.be⟩
  · go_wp2_with fail
    refine start_ (n := 10) (S := fun wx => B2 w wx (.cells #[.string f0, .int .i64 f1, .string f2, .int .i64 f3, .int .i64 sn, .int .i64 sd, .int .i64 on, .int .i64 od, .string f8] 25) (.cells #[.int .i64 vn, .int .i64 vd] 23)) (ds := []) #[false, false, false, false, false, false, false, false, false, false] (by kernel_rfl) rfl rfl (hB.step (below_drew (Below.refl _ _))) (fun hHeld => ?_)
    refine take_ (i := 0) (N := some 18) (v := ?_) (a' := ?_) #[true, false, false, false, false, false, false, false, false, false] rfl rfl (by kernel_rfl) (fun _ _ _ h => h) (Or.inl ⟨by rfl, ?_⟩) hHeld ?_ ?_
    rotate_left
    · rintro w' hh
      have s0 : w'.cell? ⟨w.heap.size, 0, none⟩ = some (.string f0) := blk_cell hh.b1 0
      have s1 : w'.cell? ⟨w.heap.size, 1, none⟩ = some (.int .i64 f1) := blk_cell hh.b1 1
      have s2 : w'.cell? ⟨w.heap.size, 2, none⟩ = some (.string f2) := blk_cell hh.b1 2
      have s3 : w'.cell? ⟨w.heap.size, 3, none⟩ = some (.int .i64 f3) := blk_cell hh.b1 3
      have s4 : w'.cell? ⟨w.heap.size, 4, none⟩ = some (.int .i64 sn) := blk_cell hh.b1 4
      have s5 : w'.cell? ⟨w.heap.size, 5, none⟩ = some (.int .i64 sd) := blk_cell hh.b1 5
      have s6 : w'.cell? ⟨w.heap.size, 6, none⟩ = some (.int .i64 on) := blk_cell hh.b1 6
      have s7 : w'.cell? ⟨w.heap.size, 7, none⟩ = some (.int .i64 od) := blk_cell hh.b1 7
      have s8 : w'.cell? ⟨w.heap.size, 8, none⟩ = some (.string f8) := blk_cell hh.b1 8
      have v0 : w'.cell? ⟨w.heap.size + 1, 0, none⟩ = some (.int .i64 vn) := blk_cell hh.b2 0
      have v1 : w'.cell? ⟨w.heap.size + 1, 1, none⟩ = some (.int .i64 vd) := blk_cell hh.b2 1
      go_simp
      with_reducible rfl
    rotate_left
    · simp only [Act.put, List.setIfInBounds_toArray, List.set_cons_zero, List.set_cons_succ, i64_w, i32_w]
      rfl
    refine take_ (i := 2) (N := some 20) (v := ?_) (a' := ?_) #[true, false, true, false, false, false, false, false, false, false] rfl rfl (by kernel_rfl) (fun _ _ _ h => h) (Or.inl ⟨by rfl, ?_⟩) hHeld ?_ ?_
    rotate_left
    · rintro w' hh
      have s0 : w'.cell? ⟨w.heap.size, 0, none⟩ = some (.string f0) := blk_cell hh.b1 0
      have s1 : w'.cell? ⟨w.heap.size, 1, none⟩ = some (.int .i64 f1) := blk_cell hh.b1 1
      have s2 : w'.cell? ⟨w.heap.size, 2, none⟩ = some (.string f2) := blk_cell hh.b1 2
      have s3 : w'.cell? ⟨w.heap.size, 3, none⟩ = some (.int .i64 f3) := blk_cell hh.b1 3
      have s4 : w'.cell? ⟨w.heap.size, 4, none⟩ = some (.int .i64 sn) := blk_cell hh.b1 4
      have s5 : w'.cell? ⟨w.heap.size, 5, none⟩ = some (.int .i64 sd) := blk_cell hh.b1 5
      have s6 : w'.cell? ⟨w.heap.size, 6, none⟩ = some (.int .i64 on) := blk_cell hh.b1 6
      have s7 : w'.cell? ⟨w.heap.size, 7, none⟩ = some (.int .i64 od) := blk_cell hh.b1 7
      have s8 : w'.cell? ⟨w.heap.size, 8, none⟩ = some (.string f8) := blk_cell hh.b1 8
      have v0 : w'.cell? ⟨w.heap.size + 1, 0, none⟩ = some (.int .i64 vn) := blk_cell hh.b2 0
      have v1 : w'.cell? ⟨w.heap.size + 1, 1, none⟩ = some (.int .i64 vd) := blk_cell hh.b2 1
      go_simp
      with_reducible rfl
    rotate_left
    · simp only [Act.put, List.setIfInBounds_toArray, List.set_cons_zero, List.set_cons_succ, i64_w, i32_w]
      rfl
    refine one_ (i := 1) (N := some 19) #[true, true, true, false, false, false, false, false, false, false] rfl rfl (by kernel_rfl) (by decide) (fun K hK => ?_)
    refine goes_ Try.func23 (by kernel_rfl) rfl #[.agg #[.string f0, .int .i64 f1, .string f2, .int .i64 f3, .int .i64 sn, .int .i64 sd, .int .i64 on, .int .i64 od, .string f8]] (by rfl) rfl rfl (by (try simp only [List.map_toArray, List.map_cons, List.map_nil]); first | done | rfl) ?_
    refine (of_calls f0 f1 f2 f3 sn sd on od f8 _).mono ?_
    rintro e wz ⟨rfl, hb_⟩
    refine ⟨_, rfl, ?_⟩
    refine hK.out _ _ (hHeld.step hb_) (fun hHeld => ?_)
    clear hK K
    refine norm_ (a' := ?_) ?_ ?_
    rotate_left
    · show Act.put _ (some 19) _ = _
      simp only [Act.put, List.setIfInBounds_toArray, List.set_cons_zero, List.set_cons_succ, i64_w, i32_w]
      rfl
    refine one_ (i := 3) (N := some 21) #[true, true, true, true, false, false, false, false, false, false] rfl rfl (by kernel_rfl) (by decide) (fun K hK => ?_)
    refine goes_ Try.func25 (by kernel_rfl) rfl #[.agg #[.int .i64 vn, .int .i64 vd]] (by rfl) rfl rfl (by (try simp only [List.map_toArray, List.map_cons, List.map_nil]); first | done | rfl) ?_
    refine (of02_calls vn vd _).mono ?_
    rintro e wz ⟨rfl, hb_⟩
    refine ⟨_, rfl, ?_⟩
    refine hK.out _ _ (hHeld.step hb_) (fun hHeld => ?_)
    clear hK K
    refine norm_ (a' := ?_) ?_ ?_
    rotate_left
    · show Act.put _ (some 21) _ = _
      simp only [Act.put, List.setIfInBounds_toArray, List.set_cons_zero, List.set_cons_succ, i64_w, i32_w]
      rfl
    refine one_ (i := 4) (N := some 22) #[true, true, true, true, true, false, false, false, false, false] rfl rfl (by kernel_rfl) (by decide) (fun K hK => ?_)
    refine goes_ Try.func24 (by kernel_rfl) rfl #[.agg #[.string f0, .int .i64 f1, .string f2, .int .i64 f3, .int .i64 sn, .int .i64 sd, .int .i64 on, .int .i64 od, .string f8], .agg #[.int .i64 vn, .int .i64 vd]] (by rfl) rfl rfl (by (try simp only [List.map_toArray, List.map_cons, List.map_nil]); first | done | rfl) ?_
    refine (HC.out _).mono ?_
    rintro e wz ⟨rfl, hb_⟩
    refine ⟨_, rfl, ?_⟩
    refine hK.out _ _ (hHeld.step hb_) (fun hHeld => ?_)
    clear hK K
    refine norm_ (a' := ?_) ?_ ?_
    rotate_left
    · show Act.put _ (some 22) _ = _
      simp only [Act.put, List.setIfInBounds_toArray, List.set_cons_zero, List.set_cons_succ, i64_w, i32_w]
      rfl
    refine pure_ (i := 5) (N := some 17) (v := ?_) (a' := ?_) #[true, true, true, true, true, true, false, false, false, false] rfl rfl (by kernel_rfl) (fun _ _ _ h => h) (Or.inl ⟨by rfl, ?_⟩) ?_ ?_
    rotate_left
    · intro w'
      go_simp
      try with_reducible rfl
    rotate_left
    · simp only [Act.put, List.setIfInBounds_toArray, List.set_cons_zero, List.set_cons_succ, i64_w, i32_w]
      rfl
    refine pure_ (i := 6) (N := some 23) (v := ?_) (a' := ?_) #[true, true, true, true, true, true, true, false, false, false] rfl rfl (by kernel_rfl) (fun _ _ _ h => h) (Or.inl ⟨by rfl, ?_⟩) ?_ ?_
    rotate_left
    · intro w'
      go_simp
      try with_reducible rfl
    rotate_left
    · simp only [Act.put, List.setIfInBounds_toArray, List.set_cons_zero, List.set_cons_succ, i64_w, i32_w]
      rfl
    refine pure_ (i := 7) (N := some 24) (v := ?_) (a' := ?_) #[true, true, true, true, true, true, true, true, false, false] rfl rfl (by kernel_rfl) (fun _ _ _ h => h) (Or.inl ⟨by rfl, ?_⟩) ?_ ?_
    rotate_left
    · intro w'
      go_simp
      try with_reducible rfl
    rotate_left
    · simp only [Act.put, List.setIfInBounds_toArray, List.set_cons_zero, List.set_cons_succ, i64_w, i32_w]
      rfl
    refine pure_ (i := 8) (N := some 5) (v := ?_) (a' := ?_) #[true, true, true, true, true, true, true, true, true, false] rfl rfl (by kernel_rfl) (fun _ _ _ h => h) (Or.inl ⟨by rfl, ?_⟩) ?_ ?_
    rotate_left
    · intro w'
      go_simp
      try with_reducible rfl
    rotate_left
    · simp only [Act.put, List.setIfInBounds_toArray, List.set_cons_zero, List.set_cons_succ, i64_w, i32_w]
      rfl
    refine pure_ (i := 9) (N := some 6) (v := ?_) (a' := ?_) #[true, true, true, true, true, true, true, true, true, true] rfl rfl (by kernel_rfl) (fun _ _ _ h => h) (Or.inl ⟨by rfl, ?_⟩) ?_ ?_
    rotate_left
    · intro w'
      go_simp
      try with_reducible rfl
    rotate_left
    · simp only [Act.put, List.setIfInBounds_toArray, List.set_cons_zero, List.set_cons_succ, i64_w, i32_w]
      rfl
    refine done_ (by kernel_rfl) ?_
    clear hB
    have hB := hHeld
    clear hHeld
    have a0 : wz.cell? ⟨w.heap.size, 0, none⟩ = some (.string f0) := blk_cell hB.b1 0
    have a1 : wz.cell? ⟨w.heap.size, 1, none⟩ = some (.int .i64 f1) := blk_cell hB.b1 1
    have a2 : wz.cell? ⟨w.heap.size, 2, none⟩ = some (.string f2) := blk_cell hB.b1 2
    have a3 : wz.cell? ⟨w.heap.size, 3, none⟩ = some (.int .i64 f3) := blk_cell hB.b1 3
    have a4 : wz.cell? ⟨w.heap.size, 4, none⟩ = some (.int .i64 sn) := blk_cell hB.b1 4
    have a5 : wz.cell? ⟨w.heap.size, 5, none⟩ = some (.int .i64 sd) := blk_cell hB.b1 5
    have a6 : wz.cell? ⟨w.heap.size, 6, none⟩ = some (.int .i64 on) := blk_cell hB.b1 6
    have a7 : wz.cell? ⟨w.heap.size, 7, none⟩ = some (.int .i64 od) := blk_cell hB.b1 7
    have a8 : wz.cell? ⟨w.heap.size, 8, none⟩ = some (.string f8) := blk_cell hB.b1 8
    have b0 : wz.cell? ⟨w.heap.size + 1, 0, none⟩ = some (.int .i64 vn) := blk_cell hB.b2 0
    have b1 : wz.cell? ⟨w.heap.size + 1, 1, none⟩ = some (.int .i64 vd) := blk_cell hB.b2 1
    go_wp2_with fail
    refine (HR.out _).mono ?_
    rintro e w5 ⟨rfl, hb5⟩
    replace hB := hB.step hb5
    clear hb5
    go_wp2_with fail
    go_ret
    exact ⟨by simp, hB.be⟩
end Go.Proofs.Ytcldlfhnmkogeaa.ScaleRawsWalk

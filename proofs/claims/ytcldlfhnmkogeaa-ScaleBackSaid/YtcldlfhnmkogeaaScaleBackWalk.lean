import Derived.Test.YtcldlfhnmkogeaaScaleLaw
import Derived.Test.YtcldlfhnmkogeaaScaleFacts
/- The law ScaleBack, walked. -/
set_option linter.unusedVariables false
set_option linter.unusedSimpArgs false
namespace Go.Proofs.Ytcldlfhnmkogeaa.ScaleBackWalk
open Go.RowKit Go.Proofs.YtcldlfhnmkogeaaW.PrintWords Go.Proofs.YtcldlfhnmkogeaaW.PrintLast Go.Proofs.Ytcldlfhnmkogeaa.Nats Go.Proofs.Ytcldlfhnmkogeaa.HeapKit Go.Proofs.Ytcldlfhnmkogeaa.RatPlain Go.Proofs.Ytcldlfhnmkogeaa.Scale
set_option maxRecDepth 100000 in
set_option maxHeartbeats 4000000 in
theorem walk (f0 : ByteArray) (f1 : Int) (f2 : ByteArray) (f3 sn sd on od : Int) (f8 : ByteArray) (raw : Int) (hsn : I64 sn) (hsd : I64 sd) (hon : I64 on) (hod : I64 od) (hraw : I64 raw) (w : World) :
    Calls Try.prog 5 #[.agg #[.string f0, .int .i64 f1, .string f2, .int .i64 f3, .int .i64 sn, .int .i64 sd, .int .i64 on, .int .i64 od, .string f8], .int .i64 raw] w fun e w' => e = .returned (.bool true) ∧ Below w.heap.size w w' := by
  have hv := fun w => value_calls f0 f1 f2 f3 sn sd on od f8 raw hsn hsd hon hod hraw w
  have hIn : In (valueR sn sd on od raw) := by
    have h0 : I64 0 := by decide
    unfold valueR
    split
    · exact plusW_In (timesW_In ⟨hraw, (by decide : I64 1)⟩)
    · exact ⟨h0, h0⟩
  obtain ⟨⟨v1, v2, v3⟩, hr⟩ : ∃ r, valueR sn sd on od raw = r := ⟨_, rfl⟩
  simp only [hr, ans] at hv
  rw [hr] at hIn
  have HV := Lib.hid hv
  have HR := Lib.hid hr
  clear hv hr
  go_enter Try.func5, Try.ntmps5
  go_wp2_with fail
  refine (awake_calls _).mono ?_
  rintro e w1 ⟨rfl, hb1⟩
  have hB := (b1_start w (.cells #[.string f0, .int .i64 f1, .string f2, .int .i64 f3, .int .i64 sn, .int .i64 sd, .int .i64 on, .int .i64 od, .string f8] 25)).step hb1
  clear hb1
  have a0 : w1.cell? ⟨w.heap.size, 0, none⟩ = some (.string f0) := blk_cell hB.b1 0
  have a1 : w1.cell? ⟨w.heap.size, 1, none⟩ = some (.int .i64 f1) := blk_cell hB.b1 1
  have a2 : w1.cell? ⟨w.heap.size, 2, none⟩ = some (.string f2) := blk_cell hB.b1 2
  have a3 : w1.cell? ⟨w.heap.size, 3, none⟩ = some (.int .i64 f3) := blk_cell hB.b1 3
  have a4 : w1.cell? ⟨w.heap.size, 4, none⟩ = some (.int .i64 sn) := blk_cell hB.b1 4
  have a5 : w1.cell? ⟨w.heap.size, 5, none⟩ = some (.int .i64 sd) := blk_cell hB.b1 5
  have a6 : w1.cell? ⟨w.heap.size, 6, none⟩ = some (.int .i64 on) := blk_cell hB.b1 6
  have a7 : w1.cell? ⟨w.heap.size, 7, none⟩ = some (.int .i64 od) := blk_cell hB.b1 7
  have a8 : w1.cell? ⟨w.heap.size, 8, none⟩ = some (.string f8) := blk_cell hB.b1 8
  go_wp2_with fail
  refine (few_calls f0 f1 f2 f3 sn sd on od f8 _).mono ?_
  rintro e w2 ⟨he, hb2⟩
  replace hB := hB.step hb2
  clear hb2
  clear a0 a1 a2 a3 a4 a5 a6 a7 a8
  rcases he with rfl | rfl
  · go_wp2_with fail
    refine (awake_calls _).mono ?_
    rintro e w3 ⟨rfl, hb3⟩
    replace hB := hB.step hb3
    go_wp2_with fail
    go_ret
    exact ⟨rfl, hB.be⟩
  · skip
    have a0 : w2.cell? ⟨w.heap.size, 0, none⟩ = some (.string f0) := blk_cell hB.b1 0
    have a1 : w2.cell? ⟨w.heap.size, 1, none⟩ = some (.int .i64 f1) := blk_cell hB.b1 1
    have a2 : w2.cell? ⟨w.heap.size, 2, none⟩ = some (.string f2) := blk_cell hB.b1 2
    have a3 : w2.cell? ⟨w.heap.size, 3, none⟩ = some (.int .i64 f3) := blk_cell hB.b1 3
    have a4 : w2.cell? ⟨w.heap.size, 4, none⟩ = some (.int .i64 sn) := blk_cell hB.b1 4
    have a5 : w2.cell? ⟨w.heap.size, 5, none⟩ = some (.int .i64 sd) := blk_cell hB.b1 5
    have a6 : w2.cell? ⟨w.heap.size, 6, none⟩ = some (.int .i64 on) := blk_cell hB.b1 6
    have a7 : w2.cell? ⟨w.heap.size, 7, none⟩ = some (.int .i64 od) := blk_cell hB.b1 7
    have a8 : w2.cell? ⟨w.heap.size, 8, none⟩ = some (.string f8) := blk_cell hB.b1 8
    go_wp2_with fail
    refine (of_calls f0 f1 f2 f3 sn sd on od f8 _).mono ?_
    rintro e w3 ⟨rfl, hb3⟩
    replace hB := hB.step hb3
    clear hb3
    go_wp2_with fail
    refine (HV.out _).mono ?_
    rintro e w4 ⟨rfl, hb4⟩
    replace hB := hB.step hb4
    clear hb4
    have h8 := hB.size
    replace hB := hB.step (below_alloc (Below.refl _ _) (.cells #[.int .i64 v1, .int .i64 v2] 29))
    have kx := blk_new w4 (.cells #[.int .i64 v1, .int .i64 v2] 29)
    by_cases h3 : v3 = 0
    · subst h3
      obtain ⟨hs, ho, hv, hval⟩ := value_ok HR.out
      have hback := raw_back HR.out
      have hc := fun w => raw_calls f0 f1 f2 f3 sn sd on od f8 v1 v2 hsn hsd hon hod hIn.1 hIn.2 w
      obtain ⟨⟨n, g⟩, hrw⟩ : ∃ r, rawR sn sd on od v1 v2 = r := ⟨_, rfl⟩
      rw [hrw] at hback
      simp only [hrw] at hc
      have HC := Lib.hid hc
      clear hc hrw hv hval
      go_wp2_with fail
      obtain ⟨w5, hw5⟩ : ∃ w5, w5 = w4.alloc (.cells #[.int .i64 v1, .int .i64 v2] 29) := ⟨_, rfl⟩
      obtain ⟨p8, hp8⟩ : ∃ p8, p8 = w4.heap.size := ⟨_, rfl⟩
      rw [← hp8] at h8 kx ⊢
      rw [← hw5] at kx hB ⊢
      clear hw5 hp8
      refine start_ (n := 9) (S := fun wx => B1 w wx (.cells #[.string f0, .int .i64 f1, .string f2, .int .i64 f3, .int .i64 sn, .int .i64 sd, .int .i64 on, .int .i64 od, .string f8] 25) ∧ wx.heap[p8]? = some (.cells #[.int .i64 v1, .int .i64 v2] 29 (0, 0))) (ds := []) #[false, false, false, false, false, false, false, false, false] (by kernel_rfl) rfl rfl ⟨hB.step (below_drew (Below.refl _ _)), blk_drew kx⟩ (fun hHeld => ?_)
      refine take_ (i := 0) (N := some 30) (v := ?_) (a' := ?_) #[true, false, false, false, false, false, false, false, false] rfl rfl (by kernel_rfl) (fun _ _ _ h => h) (Or.inl ⟨by rfl, ?_⟩) hHeld ?_ ?_
      rotate_left
      · rintro w' hh
        have s0 : w'.cell? ⟨w.heap.size, 0, none⟩ = some (.string f0) := blk_cell hh.1.b1 0
        have s1 : w'.cell? ⟨w.heap.size, 1, none⟩ = some (.int .i64 f1) := blk_cell hh.1.b1 1
        have s2 : w'.cell? ⟨w.heap.size, 2, none⟩ = some (.string f2) := blk_cell hh.1.b1 2
        have s3 : w'.cell? ⟨w.heap.size, 3, none⟩ = some (.int .i64 f3) := blk_cell hh.1.b1 3
        have s4 : w'.cell? ⟨w.heap.size, 4, none⟩ = some (.int .i64 sn) := blk_cell hh.1.b1 4
        have s5 : w'.cell? ⟨w.heap.size, 5, none⟩ = some (.int .i64 sd) := blk_cell hh.1.b1 5
        have s6 : w'.cell? ⟨w.heap.size, 6, none⟩ = some (.int .i64 on) := blk_cell hh.1.b1 6
        have s7 : w'.cell? ⟨w.heap.size, 7, none⟩ = some (.int .i64 od) := blk_cell hh.1.b1 7
        have s8 : w'.cell? ⟨w.heap.size, 8, none⟩ = some (.string f8) := blk_cell hh.1.b1 8
        have u0 : w'.cell? ⟨p8, 0, none⟩ = some (.int .i64 v1) := blk_cell hh.2 0
        have u1 : w'.cell? ⟨p8, 1, none⟩ = some (.int .i64 v2) := blk_cell hh.2 1
        go_simp
        with_reducible rfl
      rotate_left
      · simp only [Act.put, List.setIfInBounds_toArray, List.set_cons_zero, List.set_cons_succ, i64_w, i32_w]
        rfl
      refine take_ (i := 2) (N := some 32) (v := ?_) (a' := ?_) #[true, false, true, false, false, false, false, false, false] rfl rfl (by kernel_rfl) (fun _ _ _ h => h) (Or.inl ⟨by rfl, ?_⟩) hHeld ?_ ?_
      rotate_left
      · rintro w' hh
        have s0 : w'.cell? ⟨w.heap.size, 0, none⟩ = some (.string f0) := blk_cell hh.1.b1 0
        have s1 : w'.cell? ⟨w.heap.size, 1, none⟩ = some (.int .i64 f1) := blk_cell hh.1.b1 1
        have s2 : w'.cell? ⟨w.heap.size, 2, none⟩ = some (.string f2) := blk_cell hh.1.b1 2
        have s3 : w'.cell? ⟨w.heap.size, 3, none⟩ = some (.int .i64 f3) := blk_cell hh.1.b1 3
        have s4 : w'.cell? ⟨w.heap.size, 4, none⟩ = some (.int .i64 sn) := blk_cell hh.1.b1 4
        have s5 : w'.cell? ⟨w.heap.size, 5, none⟩ = some (.int .i64 sd) := blk_cell hh.1.b1 5
        have s6 : w'.cell? ⟨w.heap.size, 6, none⟩ = some (.int .i64 on) := blk_cell hh.1.b1 6
        have s7 : w'.cell? ⟨w.heap.size, 7, none⟩ = some (.int .i64 od) := blk_cell hh.1.b1 7
        have s8 : w'.cell? ⟨w.heap.size, 8, none⟩ = some (.string f8) := blk_cell hh.1.b1 8
        have u0 : w'.cell? ⟨p8, 0, none⟩ = some (.int .i64 v1) := blk_cell hh.2 0
        have u1 : w'.cell? ⟨p8, 1, none⟩ = some (.int .i64 v2) := blk_cell hh.2 1
        go_simp
        with_reducible rfl
      rotate_left
      · simp only [Act.put, List.setIfInBounds_toArray, List.set_cons_zero, List.set_cons_succ, i64_w, i32_w]
        rfl
      refine one_ (i := 1) (N := some 31) #[true, true, true, false, false, false, false, false, false] rfl rfl (by kernel_rfl) (by decide) (fun K hK => ?_)
      refine goes_ Try.func23 (by kernel_rfl) rfl #[.agg #[.string f0, .int .i64 f1, .string f2, .int .i64 f3, .int .i64 sn, .int .i64 sd, .int .i64 on, .int .i64 od, .string f8]] (by rfl) rfl rfl (by (try simp only [List.map_toArray, List.map_cons, List.map_nil]); first | done | rfl) ?_
      refine (of_calls f0 f1 f2 f3 sn sd on od f8 _).mono ?_
      rintro e w6 ⟨rfl, hb6⟩
      refine ⟨_, rfl, ?_⟩
      refine hK.out _ _ ⟨hHeld.1.step hb6, blk_below hHeld.2 hb6⟩ (fun hHeld => ?_)
      clear hK K
      refine norm_ (a' := ?_) ?_ ?_
      rotate_left
      · show Act.put _ (some 31) _ = _
        simp only [Act.put, List.setIfInBounds_toArray, List.set_cons_zero, List.set_cons_succ, i64_w, i32_w]
        rfl
      refine one_ (i := 3) (N := some 33) #[true, true, true, true, false, false, false, false, false] rfl rfl (by kernel_rfl) (by decide) (fun K hK => ?_)
      refine goes_ Try.func24 (by kernel_rfl) rfl #[.agg #[.string f0, .int .i64 f1, .string f2, .int .i64 f3, .int .i64 sn, .int .i64 sd, .int .i64 on, .int .i64 od, .string f8], .agg #[.int .i64 v1, .int .i64 v2]] (by rfl) rfl rfl (by (try simp only [List.map_toArray, List.map_cons, List.map_nil]); first | done | rfl) ?_
      refine (HC.out _).mono ?_
      rintro e w7 ⟨rfl, hb7⟩
      refine ⟨_, rfl, ?_⟩
      refine hK.out _ _ ⟨hHeld.1.step hb7, blk_below hHeld.2 hb7⟩ (fun hHeld => ?_)
      clear hK K
      refine norm_ (a' := ?_) ?_ ?_
      rotate_left
      · show Act.put _ (some 33) _ = _
        simp only [Act.put, List.setIfInBounds_toArray, List.set_cons_zero, List.set_cons_succ, i64_w, i32_w]
        rfl
      refine pure_ (i := 4) (N := some 29) (v := ?_) (a' := ?_) #[true, true, true, true, true, false, false, false, false] rfl rfl (by kernel_rfl) (fun _ _ _ h => h) (Or.inl ⟨by rfl, ?_⟩) ?_ ?_
      rotate_left
      · intro w'
        go_simp
        try with_reducible rfl
      rotate_left
      · simp only [Act.put, List.setIfInBounds_toArray, List.set_cons_zero, List.set_cons_succ, i64_w, i32_w]
        rfl
      refine pure_ (i := 5) (N := some 34) (v := ?_) (a' := ?_) #[true, true, true, true, true, true, false, false, false] rfl rfl (by kernel_rfl) (fun _ _ _ h => h) (Or.inl ⟨by rfl, ?_⟩) ?_ ?_
      rotate_left
      · intro w'
        go_simp
        try with_reducible rfl
      rotate_left
      · simp only [Act.put, List.setIfInBounds_toArray, List.set_cons_zero, List.set_cons_succ, i64_w, i32_w]
        rfl
      refine pure_ (i := 6) (N := some 35) (v := ?_) (a' := ?_) #[true, true, true, true, true, true, true, false, false] rfl rfl (by kernel_rfl) (fun _ _ _ h => h) (Or.inl ⟨by rfl, ?_⟩) ?_ ?_
      rotate_left
      · intro w'
        go_simp
        try with_reducible rfl
      rotate_left
      · simp only [Act.put, List.setIfInBounds_toArray, List.set_cons_zero, List.set_cons_succ, i64_w, i32_w]
        rfl
      refine pure_ (i := 7) (N := some 7) (v := ?_) (a' := ?_) #[true, true, true, true, true, true, true, true, false] rfl rfl (by kernel_rfl) (fun _ _ _ h => h) (Or.inl ⟨by rfl, ?_⟩) ?_ ?_
      rotate_left
      · intro w'
        go_simp
        try with_reducible rfl
      rotate_left
      · simp only [Act.put, List.setIfInBounds_toArray, List.set_cons_zero, List.set_cons_succ, i64_w, i32_w]
        rfl
      refine pure_ (i := 8) (N := some 8) (v := ?_) (a' := ?_) #[true, true, true, true, true, true, true, true, true] rfl rfl (by kernel_rfl) (fun _ _ _ h => h) (Or.inl ⟨by rfl, ?_⟩) ?_ ?_
      rotate_left
      · intro w'
        go_simp
        try with_reducible rfl
      rotate_left
      · simp only [Act.put, List.setIfInBounds_toArray, List.set_cons_zero, List.set_cons_succ, i64_w, i32_w]
        rfl
      refine done_ (by kernel_rfl) ?_
      clear hB kx
      obtain ⟨hB, kx⟩ := hHeld
      have a0 : w7.cell? ⟨w.heap.size, 0, none⟩ = some (.string f0) := blk_cell hB.b1 0
      have a1 : w7.cell? ⟨w.heap.size, 1, none⟩ = some (.int .i64 f1) := blk_cell hB.b1 1
      have a2 : w7.cell? ⟨w.heap.size, 2, none⟩ = some (.string f2) := blk_cell hB.b1 2
      have a3 : w7.cell? ⟨w.heap.size, 3, none⟩ = some (.int .i64 f3) := blk_cell hB.b1 3
      have a4 : w7.cell? ⟨w.heap.size, 4, none⟩ = some (.int .i64 sn) := blk_cell hB.b1 4
      have a5 : w7.cell? ⟨w.heap.size, 5, none⟩ = some (.int .i64 sd) := blk_cell hB.b1 5
      have a6 : w7.cell? ⟨w.heap.size, 6, none⟩ = some (.int .i64 on) := blk_cell hB.b1 6
      have a7 : w7.cell? ⟨w.heap.size, 7, none⟩ = some (.int .i64 od) := blk_cell hB.b1 7
      have a8 : w7.cell? ⟨w.heap.size, 8, none⟩ = some (.string f8) := blk_cell hB.b1 8
      by_cases hz : sn = 0
      · obtain ⟨h1, h2, h3⟩ := hback.1 hz
        cases h1
        subst hz h2 h3
        go_wp2_with fail
        clear HR HC HV hback
        refine start_ (n := 10) (S := fun wx => B1 w wx (.cells #[.string f0, .int .i64 f1, .string f2, .int .i64 f3, .int .i64 0, .int .i64 sd, .int .i64 v1, .int .i64 v2, .string f8] 25) ∧ wx.heap[p8]? = some (.cells #[.int .i64 v1, .int .i64 v2] 29 (0, 0))) (ds := []) #[false, false, false, false, false, false, false, false, false, false] (by kernel_rfl) rfl rfl ⟨hB.step (below_drew (Below.refl _ _)), blk_drew kx⟩ (fun hHeld => ?_)
        refine pure_ (i := 0) (N := some 40) (v := ?_) (a' := ?_) #[true, false, false, false, false, false, false, false, false, false] rfl rfl (by kernel_rfl) (fun _ _ _ h => h) (Or.inl ⟨by rfl, ?_⟩) ?_ ?_
        rotate_left
        · intro w'
          go_simp
          try with_reducible rfl
        rotate_left
        · simp only [Act.put, List.setIfInBounds_toArray, List.set_cons_zero, List.set_cons_succ, i64_w, i32_w]
          rfl
        refine pure_ (i := 1) (N := some 41) (v := ?_) (a' := ?_) #[true, true, false, false, false, false, false, false, false, false] rfl rfl (by kernel_rfl) (fun _ _ _ h => h) (Or.inl ⟨by rfl, ?_⟩) ?_ ?_
        rotate_left
        · intro w'
          go_simp
          try with_reducible rfl
        rotate_left
        · simp only [Act.put, List.setIfInBounds_toArray, List.set_cons_zero, List.set_cons_succ, i64_w, i32_w]
          rfl
        refine pure_ (i := 2) (N := some 42) (v := ?_) (a' := ?_) #[true, true, true, false, false, false, false, false, false, false] rfl rfl (by kernel_rfl) (fun _ _ _ h => h) (Or.inl ⟨by rfl, ?_⟩) ?_ ?_
        rotate_left
        · intro w'
          go_simp
          try with_reducible rfl
        rotate_left
        · simp only [Act.put, List.setIfInBounds_toArray, List.set_cons_zero, List.set_cons_succ, i64_w, i32_w]
          rfl
        refine take_ (i := 3) (N := some 43) (v := ?_) (a' := ?_) #[true, true, true, true, false, false, false, false, false, false] rfl rfl (by kernel_rfl) (fun _ _ _ h => h) (Or.inl ⟨by rfl, ?_⟩) hHeld ?_ ?_
        rotate_left
        · rintro w' hh
          have s0 : w'.cell? ⟨w.heap.size, 0, none⟩ = some (.string f0) := blk_cell hh.1.b1 0
          have s1 : w'.cell? ⟨w.heap.size, 1, none⟩ = some (.int .i64 f1) := blk_cell hh.1.b1 1
          have s2 : w'.cell? ⟨w.heap.size, 2, none⟩ = some (.string f2) := blk_cell hh.1.b1 2
          have s3 : w'.cell? ⟨w.heap.size, 3, none⟩ = some (.int .i64 f3) := blk_cell hh.1.b1 3
          have s4 : w'.cell? ⟨w.heap.size, 4, none⟩ = some (.int .i64 0) := blk_cell hh.1.b1 4
          have s5 : w'.cell? ⟨w.heap.size, 5, none⟩ = some (.int .i64 sd) := blk_cell hh.1.b1 5
          have s6 : w'.cell? ⟨w.heap.size, 6, none⟩ = some (.int .i64 v1) := blk_cell hh.1.b1 6
          have s7 : w'.cell? ⟨w.heap.size, 7, none⟩ = some (.int .i64 v2) := blk_cell hh.1.b1 7
          have s8 : w'.cell? ⟨w.heap.size, 8, none⟩ = some (.string f8) := blk_cell hh.1.b1 8
          have u0 : w'.cell? ⟨p8, 0, none⟩ = some (.int .i64 v1) := blk_cell hh.2 0
          have u1 : w'.cell? ⟨p8, 1, none⟩ = some (.int .i64 v2) := blk_cell hh.2 1
          go_simp
          with_reducible rfl
        rotate_left
        · simp only [Act.put, List.setIfInBounds_toArray, List.set_cons_zero, List.set_cons_succ, i64_w, i32_w]
          rfl
        refine pure_ (i := 4) (N := some 44) (v := ?_) (a' := ?_) #[true, true, true, true, true, false, false, false, false, false] rfl rfl (by kernel_rfl) (fun _ _ _ h => h) (Or.inl ⟨by rfl, ?_⟩) ?_ ?_
        rotate_left
        · intro w'
          go_simp
          try with_reducible rfl
        rotate_left
        · simp only [Act.put, List.setIfInBounds_toArray, List.set_cons_zero, List.set_cons_succ, i64_w, i32_w]
          rfl
        refine take_ (i := 5) (N := some 45) (v := ?_) (a' := ?_) #[true, true, true, true, true, true, false, false, false, false] rfl rfl (by kernel_rfl) (fun _ _ _ h => h) (Or.inl ⟨by rfl, ?_⟩) hHeld ?_ ?_
        rotate_left
        · rintro w' hh
          have s0 : w'.cell? ⟨w.heap.size, 0, none⟩ = some (.string f0) := blk_cell hh.1.b1 0
          have s1 : w'.cell? ⟨w.heap.size, 1, none⟩ = some (.int .i64 f1) := blk_cell hh.1.b1 1
          have s2 : w'.cell? ⟨w.heap.size, 2, none⟩ = some (.string f2) := blk_cell hh.1.b1 2
          have s3 : w'.cell? ⟨w.heap.size, 3, none⟩ = some (.int .i64 f3) := blk_cell hh.1.b1 3
          have s4 : w'.cell? ⟨w.heap.size, 4, none⟩ = some (.int .i64 0) := blk_cell hh.1.b1 4
          have s5 : w'.cell? ⟨w.heap.size, 5, none⟩ = some (.int .i64 sd) := blk_cell hh.1.b1 5
          have s6 : w'.cell? ⟨w.heap.size, 6, none⟩ = some (.int .i64 v1) := blk_cell hh.1.b1 6
          have s7 : w'.cell? ⟨w.heap.size, 7, none⟩ = some (.int .i64 v2) := blk_cell hh.1.b1 7
          have s8 : w'.cell? ⟨w.heap.size, 8, none⟩ = some (.string f8) := blk_cell hh.1.b1 8
          have u0 : w'.cell? ⟨p8, 0, none⟩ = some (.int .i64 v1) := blk_cell hh.2 0
          have u1 : w'.cell? ⟨p8, 1, none⟩ = some (.int .i64 v2) := blk_cell hh.2 1
          go_simp
          with_reducible rfl
        rotate_left
        · simp only [Act.put, List.setIfInBounds_toArray, List.set_cons_zero, List.set_cons_succ, i64_w, i32_w]
          rfl
        refine one_ (i := 6) (N := some 46) #[true, true, true, true, true, true, true, false, false, false] rfl rfl (by kernel_rfl) (by decide) (fun K hK => ?_)
        refine goes_ Try.func25 (by kernel_rfl) rfl #[.agg #[.int .i64 v1, .int .i64 v2]] (by rfl) rfl rfl (by (try simp only [List.map_toArray, List.map_cons, List.map_nil]); first | done | rfl) ?_
        refine (of02_calls v1 v2 _).mono ?_
        rintro e w8 ⟨rfl, hb8⟩
        refine ⟨_, rfl, ?_⟩
        refine hK.out _ _ ⟨hHeld.1.step hb8, blk_below hHeld.2 hb8⟩ (fun hHeld => ?_)
        clear hK K
        refine norm_ (a' := ?_) ?_ ?_
        rotate_left
        · show Act.put _ (some 46) _ = _
          simp only [Act.put, List.setIfInBounds_toArray, List.set_cons_zero, List.set_cons_succ, i64_w, i32_w]
          rfl
        refine pure_ (i := 7) (N := some 47) (v := ?_) (a' := ?_) #[true, true, true, true, true, true, true, true, false, false] rfl rfl (by kernel_rfl) (fun _ _ _ h => h) (Or.inl ⟨by rfl, ?_⟩) ?_ ?_
        rotate_left
        · intro w'
          go_simp
          try with_reducible rfl
        rotate_left
        · simp only [Act.put, List.setIfInBounds_toArray, List.set_cons_zero, List.set_cons_succ, i64_w, i32_w]
          rfl
        refine pure_ (i := 8) (N := some 48) (v := ?_) (a' := ?_) #[true, true, true, true, true, true, true, true, true, false] rfl rfl (by kernel_rfl) (fun _ _ _ h => h) (Or.inl ⟨by rfl, ?_⟩) ?_ ?_
        rotate_left
        · intro w'
          go_simp
          try with_reducible rfl
        rotate_left
        · simp only [Act.put, List.setIfInBounds_toArray, List.set_cons_zero, List.set_cons_succ, i64_w, i32_w]
          rfl
        refine pure_ (i := 9) (N := some 4) (v := ?_) (a' := ?_) #[true, true, true, true, true, true, true, true, true, true] rfl rfl (by kernel_rfl) (fun _ _ _ h => h) (Or.inl ⟨by rfl, ?_⟩) ?_ ?_
        rotate_left
        · intro w'
          go_simp
          try with_reducible rfl
        rotate_left
        · simp only [Act.put, List.setIfInBounds_toArray, List.set_cons_zero, List.set_cons_succ, i64_w, i32_w]
          rfl
        refine done_ (by kernel_rfl) ?_
        go_wp2_with fail
        go_ret
        exact ⟨by simp, hHeld.1.be⟩
      · have z1 : (sn == 0) = false := by simp [hz]
        rcases hback.2 hz with h1 | h1
        · cases h1
          go_wp2_with fail
          go_ret
          exact ⟨rfl, hB.be⟩
        · cases h1
          go_wp2_with fail
          go_ret
          exact ⟨rfl, hB.be⟩
    · obtain ⟨rfl, rfl⟩ := value_err HR.out h3
      have e3 : (v3 == 0) = false := by simp [h3]
      have c0 : (w4.alloc (.cells #[.int .i64 0, .int .i64 0] 29)).cell? ⟨w4.heap.size, 0, none⟩ = some (.int .i64 0) := blk_cell kx 0
      have c1 : (w4.alloc (.cells #[.int .i64 0, .int .i64 0] 29)).cell? ⟨w4.heap.size, 1, none⟩ = some (.int .i64 0) := blk_cell kx 1
      go_wp2_with fail
      go_ret
      exact ⟨rfl, hB.be⟩
end Go.Proofs.Ytcldlfhnmkogeaa.ScaleBackWalk

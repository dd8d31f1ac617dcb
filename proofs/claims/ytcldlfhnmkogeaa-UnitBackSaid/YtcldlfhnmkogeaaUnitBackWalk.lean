import Derived.Test.YtcldlfhnmkogeaaUnitLaw
import Derived.Test.YtcldlfhnmkogeaaScaleOrderFacts
/- The law UnitBack, walked. -/
set_option linter.unusedVariables false
set_option linter.unusedSimpArgs false
namespace Go.Proofs.Ytcldlfhnmkogeaa.UnitBackWalk
open Go.RowKit Go.Proofs.YtcldlfhnmkogeaaW.PrintWords Go.Proofs.YtcldlfhnmkogeaaW.PrintLast Go.Proofs.Ytcldlfhnmkogeaa.Nats Go.Proofs.Ytcldlfhnmkogeaa.HeapKit Go.Proofs.Ytcldlfhnmkogeaa.RatPlain Go.Proofs.Ytcldlfhnmkogeaa.Scale Go.Proofs.Ytcldlfhnmkogeaa.Unit Go.Proofs.Ytcldlfhnmkogeaa.UnitLaw

theorem keeps {a b : ByteArray} {vn vd un ud x1 x2 z1 z2 : Int} (hv : Rt vn vd) (hu : Rt un ud) (hx : convR a b vn vd = (x1, x2, 0)) (hz : convR a b un ud = (z1, z2, 0)) : lessB vn vd un ud = lessB x1 x2 z1 z2 := by
  obtain ⟨ua, ub, fa, fb, _, rx, ex⟩ := conv_ok hv hx
  obtain ⟨ua2, ub2, fa2, fb2, _, rz, ez⟩ := conv_ok hu hz
  rw [fa] at fa2; cases fa2
  rw [fb] at fb2; cases fb2
  rw [lessB_val hv hu, lessB_val rx rz]
  refine decide_eq_decide.2 ?_
  have h1 := scale_up (find_good fa).pos ua.O (RatPlain.val vn vd) (RatPlain.val un ud)
  have h2 := scale_up (find_good fb).pos ub.O (RatPlain.val x1 x2) (RatPlain.val z1 z2)
  rw [ex, ez] at h2
  exact h1.symm.trans h2
/-- The boxes. -/
structure Bk (w wx : World) (vn vd un ud : Int) (p9 p11 p13 : Nat) (x1 x2 y1 y2 z1 z2 : Int) : Prop where
  b : B2 w wx (.cells #[.int .i64 vn, .int .i64 vd] 23) (.cells #[.int .i64 un, .int .i64 ud] 23)
  k9 : wx.heap[p9]? = some (.cells #[.int .i64 x1, .int .i64 x2] 29 (0, 0))
  k11 : wx.heap[p11]? = some (.cells #[.int .i64 y1, .int .i64 y2] 29 (0, 0))
  k13 : wx.heap[p13]? = some (.cells #[.int .i64 z1, .int .i64 z2] 29 (0, 0))
theorem Bk.step {w wx w2 : World} {vn vd un ud x1 x2 y1 y2 z1 z2 : Int} {p9 p11 p13 : Nat} (h : Bk w wx vn vd un ud p9 p11 p13 x1 x2 y1 y2 z1 z2) (hb : Below wx.heap.size wx w2) : Bk w w2 vn vd un ud p9 p11 p13 x1 x2 y1 y2 z1 z2 :=
  ⟨h.b.step hb, blk_below h.k9 hb, blk_below h.k11 hb, blk_below h.k13 hb⟩

set_option maxRecDepth 100000 in
set_option maxHeartbeats 4000000 in
theorem walk (vn vd un ud : Int) (h1 : I64 vn) (h2 : I64 vd) (h3 : I64 un) (h4 : I64 ud) (a b : ByteArray) (w : World) :
    Calls Try.prog 15 #[.agg #[.int .i64 vn, .int .i64 vd], .agg #[.int .i64 un, .int .i64 ud], .string a, .string b] w fun e w' => e = .returned (.bool true) ∧ Below w.heap.size w w' := by
  have hr := fun w => ref_right_calls h1 h2 w
  have hs := fun w => ref_right_calls h3 h4 w
  obtain ⟨rr, er⟩ : ∃ r, decide (Rt vn vd) = r := ⟨_, rfl⟩
  obtain ⟨rs, es⟩ : ∃ r, decide (Rt un ud) = r := ⟨_, rfl⟩
  simp only [er] at hr
  simp only [es] at hs
  obtain ⟨x1, x2, x3, ex, cx, ix1, ix2⟩ := conv_ex (a := a) (b := b) h1 h2
  obtain ⟨y1, y2, y3, ey, cy, iy1, iy2⟩ := conv_ex (a := b) (b := a) ix1 ix2
  obtain ⟨z1, z2, z3, ez, cz, iz1, iz2⟩ := conv_ex (a := a) (b := b) h3 h4
  have hb1 : rr = true → x3 = 0 → y3 = 0 → y1 = vn ∧ y2 = vd := by
    intro k1 k2 k3
    subst k2 k3
    exact back (of_decide_eq_true (er.trans k1)) ex ey
  have hb2 : rr = true → rs = true → x3 = 0 → z3 = 0 → lessB vn vd un ud = lessB x1 x2 z1 z2 := by
    intro k1 k2 k3 k4
    subst k3 k4
    exact keeps (of_decide_eq_true (er.trans k1)) (of_decide_eq_true (es.trans k2)) ex ez
  have l1 := fun w => less_calls h1 h2 h3 h4 w
  have l2 := fun w => less_calls ix1 ix2 iz1 iz2 w
  obtain ⟨p, hp⟩ : ∃ p, lessB vn vd un ud = p := ⟨_, rfl⟩
  obtain ⟨q, hq⟩ : ∃ p, lessB x1 x2 z1 z2 = p := ⟨_, rfl⟩
  rw [hp, hq] at hb2
  have hp' : decide ((Rt vn vd ∧ Rt un ud) ∧ vn * ud < un * vd) = p := hp
  have hq' : decide ((Rt x1 x2 ∧ Rt z1 z2) ∧ x1 * z2 < z1 * x2) = q := hq
  simp only [hp'] at l1
  simp only [hq'] at l2
  have HR := Lib.hid hr
  have HS := Lib.hid hs
  have CX := Lib.hid cx
  have CY := Lib.hid cy
  have CZ := Lib.hid cz
  have HB1 := Lib.hid hb1
  have HB2 := Lib.hid hb2
  have L1 := Lib.hid l1
  have L2 := Lib.hid l2
  clear hr hs er es cx cy cz ex ey ez hb1 hb2 l1 l2 hp hq hp' hq'
  have hB := b2_start w (.cells #[.int .i64 vn, .int .i64 vd] 23) (.cells #[.int .i64 un, .int .i64 ud] 23)
  go_enter Try.func15, Try.ntmps15
  go_wp2_with fail
  refine (awake_calls _).mono ?_
  rintro e w1 ⟨rfl, hb1⟩
  replace hB := hB.step hb1
  clear hb1
  by_cases q0 : ((a.size : Nat) : Int) > 50
  · have t0 : decide (((a.size : Nat) : Int) > 50) = true := decide_eq_true q0
    go_wp2_with fail
    refine (awake_calls _).mono ?_
    rintro e w9 ⟨rfl, hb9⟩
    replace hB := hB.step hb9
    go_wp2_with fail
    go_ret
    exact ⟨rfl, hB.be⟩
  have t0 : decide (((a.size : Nat) : Int) > 50) = false := decide_eq_false q0
  by_cases q1 : ((b.size : Nat) : Int) > 50
  · have t1 : decide (((b.size : Nat) : Int) > 50) = true := decide_eq_true q1
    go_wp2_with fail
    refine (awake_calls _).mono ?_
    rintro e w9 ⟨rfl, hb9⟩
    replace hB := hB.step hb9
    go_wp2_with fail
    go_ret
    exact ⟨rfl, hB.be⟩
  have t1 : decide (((b.size : Nat) : Int) > 50) = false := decide_eq_false q1
  have v0 : w1.cell? ⟨w.heap.size, 0, none⟩ = some (.int .i64 vn) := blk_cell hB.b1 0
  have v1 : w1.cell? ⟨w.heap.size, 1, none⟩ = some (.int .i64 vd) := blk_cell hB.b1 1
  have u0 : w1.cell? ⟨w.heap.size + 1, 0, none⟩ = some (.int .i64 un) := blk_cell hB.b2 0
  have u1 : w1.cell? ⟨w.heap.size + 1, 1, none⟩ = some (.int .i64 ud) := blk_cell hB.b2 1
  go_wp2_with fail
  refine (HR.out _).mono ?_
  rintro e w2 ⟨rfl, hb2⟩
  replace hB := hB.step hb2
  clear hb2 v0 v1 u0 u1
  cases rr with
  | false =>
    go_wp2_with fail
    refine (awake_calls _).mono ?_
    rintro e w9 ⟨rfl, hb9⟩
    replace hB := hB.step hb9
    go_wp2_with fail
    go_ret
    exact ⟨rfl, hB.be⟩
  | true =>
    have v0 : w2.cell? ⟨w.heap.size, 0, none⟩ = some (.int .i64 vn) := blk_cell hB.b1 0
    have v1 : w2.cell? ⟨w.heap.size, 1, none⟩ = some (.int .i64 vd) := blk_cell hB.b1 1
    have u0 : w2.cell? ⟨w.heap.size + 1, 0, none⟩ = some (.int .i64 un) := blk_cell hB.b2 0
    have u1 : w2.cell? ⟨w.heap.size + 1, 1, none⟩ = some (.int .i64 ud) := blk_cell hB.b2 1
    go_wp2_with fail
    refine (HS.out _).mono ?_
    rintro e w2b ⟨rfl, hb2⟩
    replace hB := hB.step hb2
    clear hb2 v0 v1 u0 u1
    cases rs with
    | false =>
      go_wp2_with fail
      refine (awake_calls _).mono ?_
      rintro e w9 ⟨rfl, hb9⟩
      replace hB := hB.step hb9
      go_wp2_with fail
      go_ret
      exact ⟨rfl, hB.be⟩
    | true =>
      have v0 : w2b.cell? ⟨w.heap.size, 0, none⟩ = some (.int .i64 vn) := blk_cell hB.b1 0
      have v1 : w2b.cell? ⟨w.heap.size, 1, none⟩ = some (.int .i64 vd) := blk_cell hB.b1 1
      have u0 : w2b.cell? ⟨w.heap.size + 1, 0, none⟩ = some (.int .i64 un) := blk_cell hB.b2 0
      have u1 : w2b.cell? ⟨w.heap.size + 1, 1, none⟩ = some (.int .i64 ud) := blk_cell hB.b2 1
      go_wp2_with fail
      refine (of02_calls vn vd _).mono ?_
      rintro e w3 ⟨rfl, hb3⟩
      replace hB := hB.step hb3
      clear hb3 v0 v1 u0 u1
      go_wp2_with fail
      refine (CX.out _).mono ?_
      rintro e w4 ⟨rfl, hb4⟩
      replace hB := hB.step hb4
      clear hb4
      have k9 := blk_new w4 (.cells #[.int .i64 x1, .int .i64 x2] 29)
      replace hB := hB.step (below_alloc (Below.refl _ _) (.cells #[.int .i64 x1, .int .i64 x2] 29))
      by_cases n1 : x3 = 0
      · have N1 := Lib.hid n1
        subst n1
        have c0 : (w4.alloc (.cells #[.int .i64 x1, .int .i64 x2] 29)).cell? ⟨w4.heap.size, 0, none⟩ = some (.int .i64 x1) := blk_cell k9 0
        have c1 : (w4.alloc (.cells #[.int .i64 x1, .int .i64 x2] 29)).cell? ⟨w4.heap.size, 1, none⟩ = some (.int .i64 x2) := blk_cell k9 1
        go_wp2_with fail
        refine (CY.out _).mono ?_
        rintro e w5 ⟨rfl, hb5⟩
        replace hB := hB.step hb5
        replace k9 := blk_below k9 hb5
        clear hb5 c0 c1
        have k11 := blk_new w5 (.cells #[.int .i64 y1, .int .i64 y2] 29)
        replace k9 := blk_below k9 (below_alloc (Below.refl _ _) (.cells #[.int .i64 y1, .int .i64 y2] 29))
        replace hB := hB.step (below_alloc (Below.refl _ _) (.cells #[.int .i64 y1, .int .i64 y2] 29))
        have v0 : (w5.alloc (.cells #[.int .i64 y1, .int .i64 y2] 29)).cell? ⟨w.heap.size, 0, none⟩ = some (.int .i64 vn) := blk_cell hB.b1 0
        have v1 : (w5.alloc (.cells #[.int .i64 y1, .int .i64 y2] 29)).cell? ⟨w.heap.size, 1, none⟩ = some (.int .i64 vd) := blk_cell hB.b1 1
        have u0 : (w5.alloc (.cells #[.int .i64 y1, .int .i64 y2] 29)).cell? ⟨w.heap.size + 1, 0, none⟩ = some (.int .i64 un) := blk_cell hB.b2 0
        have u1 : (w5.alloc (.cells #[.int .i64 y1, .int .i64 y2] 29)).cell? ⟨w.heap.size + 1, 1, none⟩ = some (.int .i64 ud) := blk_cell hB.b2 1
        go_wp2_with fail
        refine (of02_calls un ud _).mono ?_
        rintro e w6 ⟨rfl, hb6⟩
        replace hB := hB.step hb6
        replace k9 := blk_below k9 hb6
        replace k11 := blk_below k11 hb6
        clear hb6 v0 v1 u0 u1
        go_wp2_with fail
        refine (CZ.out _).mono ?_
        rintro e w7 ⟨rfl, hb7⟩
        replace hB := hB.step hb7
        replace k9 := blk_below k9 hb7
        replace k11 := blk_below k11 hb7
        clear hb7
        have hBk : Bk w (w7.alloc (.cells #[.int .i64 z1, .int .i64 z2] 29)) vn vd un ud w4.heap.size w5.heap.size w7.heap.size x1 x2 y1 y2 z1 z2 :=
          ⟨hB.step (below_alloc (Below.refl _ _) _), blk_alloc k9 _, blk_alloc k11 _, blk_new w7 _⟩
        clear hB k9 k11
        by_cases n2 : y3 = 0
        · obtain ⟨g1, g2⟩ := HB1.out (by trivial) (by trivial) n2
          subst n2 g1 g2
          go_wp2_with fail
          obtain ⟨p9, hp9⟩ : ∃ p, p = w4.heap.size := ⟨_, rfl⟩
          obtain ⟨p11, hp11⟩ : ∃ p, p = w5.heap.size := ⟨_, rfl⟩
          obtain ⟨p13, hp13⟩ : ∃ p, p = w7.heap.size := ⟨_, rfl⟩
          obtain ⟨w8, hw8⟩ : ∃ w8, w8 = w7.alloc (.cells #[.int .i64 z1, .int .i64 z2] 29) := ⟨_, rfl⟩
          rw [← hp9, ← hp11, ← hp13, ← hw8] at hBk
          rw [← hp9, ← hp11, ← hp13, ← hw8]
          clear hp9 hp11 hp13 hw8
          refine start_ (n := 8) (S := fun wx => Bk w wx y1 y2 un ud p9 p11 p13 x1 x2 y1 y2 z1 z2) (ds := []) #[false, false, false, false, false, false, false, false] (by kernel_rfl) rfl rfl (hBk.step (below_drew (Below.refl _ _))) (fun hHeld => ?_)
          refine pure_ (i := 0) (N := some 63) (v := ?_) (a' := ?_) #[true, false, false, false, false, false, false, false] rfl rfl (by kernel_rfl) (fun _ _ _ h => h) (Or.inl ⟨by rfl, ?_⟩) ?_ ?_
          rotate_left
          · intro w'
            go_simp
            try with_reducible rfl
          rotate_left
          · simp only [Act.put, List.setIfInBounds_toArray, List.set_cons_zero, List.set_cons_succ, i64_w, i32_w]
            rfl
          refine pure_ (i := 1) (N := some 64) (v := ?_) (a' := ?_) #[true, true, false, false, false, false, false, false] rfl rfl (by kernel_rfl) (fun _ _ _ h => h) (Or.inl ⟨by rfl, ?_⟩) ?_ ?_
          rotate_left
          · intro w'
            go_simp
            try with_reducible rfl
          rotate_left
          · simp only [Act.put, List.setIfInBounds_toArray, List.set_cons_zero, List.set_cons_succ, i64_w, i32_w]
            rfl
          refine pure_ (i := 2) (N := some 65) (v := ?_) (a' := ?_) #[true, true, true, false, false, false, false, false] rfl rfl (by kernel_rfl) (fun _ _ _ h => h) (Or.inl ⟨by rfl, ?_⟩) ?_ ?_
          rotate_left
          · intro w'
            go_simp
            try with_reducible rfl
          rotate_left
          · simp only [Act.put, List.setIfInBounds_toArray, List.set_cons_zero, List.set_cons_succ, i64_w, i32_w]
            rfl
          refine take_ (i := 3) (N := some 66) (v := ?_) (a' := ?_) #[true, true, true, true, false, false, false, false] rfl rfl (by kernel_rfl) (fun _ _ _ h => h) (Or.inl ⟨by rfl, ?_⟩) hHeld ?_ ?_
          rotate_left
          · rintro w' hh
            have v0 : w'.cell? ⟨w.heap.size, 0, none⟩ = some (.int .i64 y1) := blk_cell hh.b.b1 0
            have v1 : w'.cell? ⟨w.heap.size, 1, none⟩ = some (.int .i64 y2) := blk_cell hh.b.b1 1
            have u0 : w'.cell? ⟨w.heap.size + 1, 0, none⟩ = some (.int .i64 un) := blk_cell hh.b.b2 0
            have u1 : w'.cell? ⟨w.heap.size + 1, 1, none⟩ = some (.int .i64 ud) := blk_cell hh.b.b2 1
            have x0 : w'.cell? ⟨p9, 0, none⟩ = some (.int .i64 x1) := blk_cell hh.k9 0
            have xx : w'.cell? ⟨p9, 1, none⟩ = some (.int .i64 x2) := blk_cell hh.k9 1
            have y0 : w'.cell? ⟨p11, 0, none⟩ = some (.int .i64 y1) := blk_cell hh.k11 0
            have yy : w'.cell? ⟨p11, 1, none⟩ = some (.int .i64 y2) := blk_cell hh.k11 1
            have z0 : w'.cell? ⟨p13, 0, none⟩ = some (.int .i64 z1) := blk_cell hh.k13 0
            have zz : w'.cell? ⟨p13, 1, none⟩ = some (.int .i64 z2) := blk_cell hh.k13 1
            go_simp
            with_reducible rfl
          rotate_left
          · simp only [Act.put, List.setIfInBounds_toArray, List.set_cons_zero, List.set_cons_succ, i64_w, i32_w]
            rfl
          refine take_ (i := 4) (N := some 67) (v := ?_) (a' := ?_) #[true, true, true, true, true, false, false, false] rfl rfl (by kernel_rfl) (fun _ _ _ h => h) (Or.inl ⟨by rfl, ?_⟩) hHeld ?_ ?_
          rotate_left
          · rintro w' hh
            have v0 : w'.cell? ⟨w.heap.size, 0, none⟩ = some (.int .i64 y1) := blk_cell hh.b.b1 0
            have v1 : w'.cell? ⟨w.heap.size, 1, none⟩ = some (.int .i64 y2) := blk_cell hh.b.b1 1
            have u0 : w'.cell? ⟨w.heap.size + 1, 0, none⟩ = some (.int .i64 un) := blk_cell hh.b.b2 0
            have u1 : w'.cell? ⟨w.heap.size + 1, 1, none⟩ = some (.int .i64 ud) := blk_cell hh.b.b2 1
            have x0 : w'.cell? ⟨p9, 0, none⟩ = some (.int .i64 x1) := blk_cell hh.k9 0
            have xx : w'.cell? ⟨p9, 1, none⟩ = some (.int .i64 x2) := blk_cell hh.k9 1
            have y0 : w'.cell? ⟨p11, 0, none⟩ = some (.int .i64 y1) := blk_cell hh.k11 0
            have yy : w'.cell? ⟨p11, 1, none⟩ = some (.int .i64 y2) := blk_cell hh.k11 1
            have z0 : w'.cell? ⟨p13, 0, none⟩ = some (.int .i64 z1) := blk_cell hh.k13 0
            have zz : w'.cell? ⟨p13, 1, none⟩ = some (.int .i64 z2) := blk_cell hh.k13 1
            go_simp
            with_reducible rfl
          rotate_left
          · simp only [Act.put, List.setIfInBounds_toArray, List.set_cons_zero, List.set_cons_succ, i64_w, i32_w]
            rfl
          refine one_ (i := 5) (N := some 68) #[true, true, true, true, true, true, false, false] rfl rfl (by kernel_rfl) (by decide) (fun K hK => ?_)
          refine goes_ Try.func25 (by kernel_rfl) rfl #[.agg #[.int .i64 y1, .int .i64 y2]] (by rfl) rfl rfl (by (try simp only [List.map_toArray, List.map_cons, List.map_nil]); first | done | rfl) ?_
          refine (of02_calls y1 y2 _).mono ?_
          rintro e wz ⟨rfl, hb_⟩
          refine ⟨_, rfl, ?_⟩
          refine hK.out _ _ (hHeld.step hb_) (fun hHeld => ?_)
          clear hK K
          refine norm_ (a' := ?_) ?_ ?_
          rotate_left
          · show Act.put _ (some 68) _ = _
            simp only [Act.put, List.setIfInBounds_toArray, List.set_cons_zero, List.set_cons_succ, i64_w, i32_w]
            rfl
          refine pure_ (i := 6) (N := some 69) (v := ?_) (a' := ?_) #[true, true, true, true, true, true, true, false] rfl rfl (by kernel_rfl) (fun _ _ _ h => h) (Or.inl ⟨by rfl, ?_⟩) ?_ ?_
          rotate_left
          · intro w'
            go_simp
            try with_reducible rfl
          rotate_left
          · simp only [Act.put, List.setIfInBounds_toArray, List.set_cons_zero, List.set_cons_succ, i64_w, i32_w]
            rfl
          refine pure_ (i := 7) (N := some 70) (v := ?_) (a' := ?_) #[true, true, true, true, true, true, true, true] rfl rfl (by kernel_rfl) (fun _ _ _ h => h) (Or.inl ⟨by rfl, ?_⟩) ?_ ?_
          rotate_left
          · intro w'
            go_simp
            try with_reducible rfl
          rotate_left
          · simp only [Act.put, List.setIfInBounds_toArray, List.set_cons_zero, List.set_cons_succ, i64_w, i32_w]
            rfl
          refine done_ (by kernel_rfl) ?_
          clear hBk
          have hBk := hHeld
          clear hHeld
          go_wp2_with fail
          by_cases n3 : z3 = 0
          · have hpq := HB2.out (by trivial) (by trivial) (by trivial) n3
            subst n3 hpq
            refine start_ (n := 14) (S := fun wx => Bk w wx y1 y2 un ud p9 p11 p13 x1 x2 y1 y2 z1 z2) (ds := []) #[false, false, false, false, false, false, false, false, false, false, false, false, false, false] (by kernel_rfl) rfl rfl (hBk.step (below_drew (Below.refl _ _))) (fun hHeld => ?_)
            refine pure_ (i := 0) (N := some 71) (v := ?_) (a' := ?_) #[true, false, false, false, false, false, false, false, false, false, false, false, false, false] rfl rfl (by kernel_rfl) (fun _ _ _ h => h) (Or.inl ⟨by rfl, ?_⟩) ?_ ?_
            rotate_left
            · intro w'
              go_simp
              try with_reducible rfl
            rotate_left
            · simp only [Act.put, List.setIfInBounds_toArray, List.set_cons_zero, List.set_cons_succ, i64_w, i32_w]
              rfl
            refine pure_ (i := 1) (N := some 72) (v := ?_) (a' := ?_) #[true, true, false, false, false, false, false, false, false, false, false, false, false, false] rfl rfl (by kernel_rfl) (fun _ _ _ h => h) (Or.inl ⟨by rfl, ?_⟩) ?_ ?_
            rotate_left
            · intro w'
              go_simp
              try with_reducible rfl
            rotate_left
            · simp only [Act.put, List.setIfInBounds_toArray, List.set_cons_zero, List.set_cons_succ, i64_w, i32_w]
              rfl
            refine pure_ (i := 2) (N := some 73) (v := ?_) (a' := ?_) #[true, true, true, false, false, false, false, false, false, false, false, false, false, false] rfl rfl (by kernel_rfl) (fun _ _ _ h => h) (Or.inl ⟨by rfl, ?_⟩) ?_ ?_
            rotate_left
            · intro w'
              go_simp
              try with_reducible rfl
            rotate_left
            · simp only [Act.put, List.setIfInBounds_toArray, List.set_cons_zero, List.set_cons_succ, i64_w, i32_w]
              rfl
            refine take_ (i := 3) (N := some 74) (v := ?_) (a' := ?_) #[true, true, true, true, false, false, false, false, false, false, false, false, false, false] rfl rfl (by kernel_rfl) (fun _ _ _ h => h) (Or.inl ⟨by rfl, ?_⟩) hHeld ?_ ?_
            rotate_left
            · rintro w' hh
              have v0 : w'.cell? ⟨w.heap.size, 0, none⟩ = some (.int .i64 y1) := blk_cell hh.b.b1 0
              have v1 : w'.cell? ⟨w.heap.size, 1, none⟩ = some (.int .i64 y2) := blk_cell hh.b.b1 1
              have u0 : w'.cell? ⟨w.heap.size + 1, 0, none⟩ = some (.int .i64 un) := blk_cell hh.b.b2 0
              have u1 : w'.cell? ⟨w.heap.size + 1, 1, none⟩ = some (.int .i64 ud) := blk_cell hh.b.b2 1
              have x0 : w'.cell? ⟨p9, 0, none⟩ = some (.int .i64 x1) := blk_cell hh.k9 0
              have xx : w'.cell? ⟨p9, 1, none⟩ = some (.int .i64 x2) := blk_cell hh.k9 1
              have y0 : w'.cell? ⟨p11, 0, none⟩ = some (.int .i64 y1) := blk_cell hh.k11 0
              have yy : w'.cell? ⟨p11, 1, none⟩ = some (.int .i64 y2) := blk_cell hh.k11 1
              have z0 : w'.cell? ⟨p13, 0, none⟩ = some (.int .i64 z1) := blk_cell hh.k13 0
              have zz : w'.cell? ⟨p13, 1, none⟩ = some (.int .i64 z2) := blk_cell hh.k13 1
              go_simp
              with_reducible rfl
            rotate_left
            · simp only [Act.put, List.setIfInBounds_toArray, List.set_cons_zero, List.set_cons_succ, i64_w, i32_w]
              rfl
            refine take_ (i := 5) (N := some 76) (v := ?_) (a' := ?_) #[true, true, true, true, false, true, false, false, false, false, false, false, false, false] rfl rfl (by kernel_rfl) (fun _ _ _ h => h) (Or.inl ⟨by rfl, ?_⟩) hHeld ?_ ?_
            rotate_left
            · rintro w' hh
              have v0 : w'.cell? ⟨w.heap.size, 0, none⟩ = some (.int .i64 y1) := blk_cell hh.b.b1 0
              have v1 : w'.cell? ⟨w.heap.size, 1, none⟩ = some (.int .i64 y2) := blk_cell hh.b.b1 1
              have u0 : w'.cell? ⟨w.heap.size + 1, 0, none⟩ = some (.int .i64 un) := blk_cell hh.b.b2 0
              have u1 : w'.cell? ⟨w.heap.size + 1, 1, none⟩ = some (.int .i64 ud) := blk_cell hh.b.b2 1
              have x0 : w'.cell? ⟨p9, 0, none⟩ = some (.int .i64 x1) := blk_cell hh.k9 0
              have xx : w'.cell? ⟨p9, 1, none⟩ = some (.int .i64 x2) := blk_cell hh.k9 1
              have y0 : w'.cell? ⟨p11, 0, none⟩ = some (.int .i64 y1) := blk_cell hh.k11 0
              have yy : w'.cell? ⟨p11, 1, none⟩ = some (.int .i64 y2) := blk_cell hh.k11 1
              have z0 : w'.cell? ⟨p13, 0, none⟩ = some (.int .i64 z1) := blk_cell hh.k13 0
              have zz : w'.cell? ⟨p13, 1, none⟩ = some (.int .i64 z2) := blk_cell hh.k13 1
              go_simp
              with_reducible rfl
            rotate_left
            · simp only [Act.put, List.setIfInBounds_toArray, List.set_cons_zero, List.set_cons_succ, i64_w, i32_w]
              rfl
            refine take_ (i := 8) (N := some 79) (v := ?_) (a' := ?_) #[true, true, true, true, false, true, false, false, true, false, false, false, false, false] rfl rfl (by kernel_rfl) (fun _ _ _ h => h) (Or.inl ⟨by rfl, ?_⟩) hHeld ?_ ?_
            rotate_left
            · rintro w' hh
              have v0 : w'.cell? ⟨w.heap.size, 0, none⟩ = some (.int .i64 y1) := blk_cell hh.b.b1 0
              have v1 : w'.cell? ⟨w.heap.size, 1, none⟩ = some (.int .i64 y2) := blk_cell hh.b.b1 1
              have u0 : w'.cell? ⟨w.heap.size + 1, 0, none⟩ = some (.int .i64 un) := blk_cell hh.b.b2 0
              have u1 : w'.cell? ⟨w.heap.size + 1, 1, none⟩ = some (.int .i64 ud) := blk_cell hh.b.b2 1
              have x0 : w'.cell? ⟨p9, 0, none⟩ = some (.int .i64 x1) := blk_cell hh.k9 0
              have xx : w'.cell? ⟨p9, 1, none⟩ = some (.int .i64 x2) := blk_cell hh.k9 1
              have y0 : w'.cell? ⟨p11, 0, none⟩ = some (.int .i64 y1) := blk_cell hh.k11 0
              have yy : w'.cell? ⟨p11, 1, none⟩ = some (.int .i64 y2) := blk_cell hh.k11 1
              have z0 : w'.cell? ⟨p13, 0, none⟩ = some (.int .i64 z1) := blk_cell hh.k13 0
              have zz : w'.cell? ⟨p13, 1, none⟩ = some (.int .i64 z2) := blk_cell hh.k13 1
              go_simp
              with_reducible rfl
            rotate_left
            · simp only [Act.put, List.setIfInBounds_toArray, List.set_cons_zero, List.set_cons_succ, i64_w, i32_w]
              rfl
            refine take_ (i := 9) (N := some 80) (v := ?_) (a' := ?_) #[true, true, true, true, false, true, false, false, true, true, false, false, false, false] rfl rfl (by kernel_rfl) (fun _ _ _ h => h) (Or.inl ⟨by rfl, ?_⟩) hHeld ?_ ?_
            rotate_left
            · rintro w' hh
              have v0 : w'.cell? ⟨w.heap.size, 0, none⟩ = some (.int .i64 y1) := blk_cell hh.b.b1 0
              have v1 : w'.cell? ⟨w.heap.size, 1, none⟩ = some (.int .i64 y2) := blk_cell hh.b.b1 1
              have u0 : w'.cell? ⟨w.heap.size + 1, 0, none⟩ = some (.int .i64 un) := blk_cell hh.b.b2 0
              have u1 : w'.cell? ⟨w.heap.size + 1, 1, none⟩ = some (.int .i64 ud) := blk_cell hh.b.b2 1
              have x0 : w'.cell? ⟨p9, 0, none⟩ = some (.int .i64 x1) := blk_cell hh.k9 0
              have xx : w'.cell? ⟨p9, 1, none⟩ = some (.int .i64 x2) := blk_cell hh.k9 1
              have y0 : w'.cell? ⟨p11, 0, none⟩ = some (.int .i64 y1) := blk_cell hh.k11 0
              have yy : w'.cell? ⟨p11, 1, none⟩ = some (.int .i64 y2) := blk_cell hh.k11 1
              have z0 : w'.cell? ⟨p13, 0, none⟩ = some (.int .i64 z1) := blk_cell hh.k13 0
              have zz : w'.cell? ⟨p13, 1, none⟩ = some (.int .i64 z2) := blk_cell hh.k13 1
              go_simp
              with_reducible rfl
            rotate_left
            · simp only [Act.put, List.setIfInBounds_toArray, List.set_cons_zero, List.set_cons_succ, i64_w, i32_w]
              rfl
            refine one_ (i := 4) (N := some 75) #[true, true, true, true, true, true, false, false, true, true, false, false, false, false] rfl rfl (by kernel_rfl) (by decide) (fun K hK => ?_)
            refine goes_ Try.func25 (by kernel_rfl) rfl #[.agg #[.int .i64 y1, .int .i64 y2]] (by rfl) rfl rfl (by (try simp only [List.map_toArray, List.map_cons, List.map_nil]); first | done | rfl) ?_
            refine (of02_calls y1 y2 _).mono ?_
            rintro e wz ⟨rfl, hb_⟩
            refine ⟨_, rfl, ?_⟩
            refine hK.out _ _ (hHeld.step hb_) (fun hHeld => ?_)
            clear hK K
            refine norm_ (a' := ?_) ?_ ?_
            rotate_left
            · show Act.put _ (some 75) _ = _
              simp only [Act.put, List.setIfInBounds_toArray, List.set_cons_zero, List.set_cons_succ, i64_w, i32_w]
              rfl
            refine one_ (i := 6) (N := some 77) #[true, true, true, true, true, true, true, false, true, true, false, false, false, false] rfl rfl (by kernel_rfl) (by decide) (fun K hK => ?_)
            refine goes_ Try.func25 (by kernel_rfl) rfl #[.agg #[.int .i64 un, .int .i64 ud]] (by rfl) rfl rfl (by (try simp only [List.map_toArray, List.map_cons, List.map_nil]); first | done | rfl) ?_
            refine (of02_calls un ud _).mono ?_
            rintro e wz ⟨rfl, hb_⟩
            refine ⟨_, rfl, ?_⟩
            refine hK.out _ _ (hHeld.step hb_) (fun hHeld => ?_)
            clear hK K
            refine norm_ (a' := ?_) ?_ ?_
            rotate_left
            · show Act.put _ (some 77) _ = _
              simp only [Act.put, List.setIfInBounds_toArray, List.set_cons_zero, List.set_cons_succ, i64_w, i32_w]
              rfl
            refine one_ (i := 7) (N := some 78) #[true, true, true, true, true, true, true, true, true, true, false, false, false, false] rfl rfl (by kernel_rfl) (by decide) (fun K hK => ?_)
            refine goes_ Try.func27 (by kernel_rfl) rfl #[.agg #[.int .i64 y1, .int .i64 y2], .agg #[.int .i64 un, .int .i64 ud]] (by rfl) rfl rfl (by (try simp only [List.map_toArray, List.map_cons, List.map_nil]); first | done | rfl) ?_
            refine (L1.out _).mono ?_
            rintro e wz ⟨rfl, hb_⟩
            refine ⟨_, rfl, ?_⟩
            refine hK.out _ _ (hHeld.step hb_) (fun hHeld => ?_)
            clear hK K
            refine norm_ (a' := ?_) ?_ ?_
            rotate_left
            · show Act.put _ (some 78) _ = _
              simp only [Act.put, List.setIfInBounds_toArray, List.set_cons_zero, List.set_cons_succ, i64_w, i32_w]
              rfl
            refine one_ (i := 10) (N := some 81) #[true, true, true, true, true, true, true, true, true, true, true, false, false, false] rfl rfl (by kernel_rfl) (by decide) (fun K hK => ?_)
            refine goes_ Try.func27 (by kernel_rfl) rfl #[.agg #[.int .i64 x1, .int .i64 x2], .agg #[.int .i64 z1, .int .i64 z2]] (by rfl) rfl rfl (by (try simp only [List.map_toArray, List.map_cons, List.map_nil]); first | done | rfl) ?_
            refine (L2.out _).mono ?_
            rintro e wz ⟨rfl, hb_⟩
            refine ⟨_, rfl, ?_⟩
            refine hK.out _ _ (hHeld.step hb_) (fun hHeld => ?_)
            clear hK K
            refine norm_ (a' := ?_) ?_ ?_
            rotate_left
            · show Act.put _ (some 81) _ = _
              simp only [Act.put, List.setIfInBounds_toArray, List.set_cons_zero, List.set_cons_succ, i64_w, i32_w]
              rfl
            refine pure_ (i := 11) (N := some 82) (v := ?_) (a' := ?_) #[true, true, true, true, true, true, true, true, true, true, true, true, false, false] rfl rfl (by kernel_rfl) (fun _ _ _ h => h) (Or.inl ⟨by rfl, ?_⟩) ?_ ?_
            rotate_left
            · intro w'
              go_simp
              try with_reducible rfl
            rotate_left
            · simp only [Act.put, List.setIfInBounds_toArray, List.set_cons_zero, List.set_cons_succ, i64_w, i32_w]
              rfl
            refine pure_ (i := 12) (N := some 83) (v := ?_) (a' := ?_) #[true, true, true, true, true, true, true, true, true, true, true, true, true, false] rfl rfl (by kernel_rfl) (fun _ _ _ h => h) (Or.inl ⟨by rfl, ?_⟩) ?_ ?_
            rotate_left
            · intro w'
              go_simp
              try with_reducible rfl
            rotate_left
            · simp only [Act.put, List.setIfInBounds_toArray, List.set_cons_zero, List.set_cons_succ, i64_w, i32_w]
              rfl
            refine pure_ (i := 13) (N := some 8) (v := ?_) (a' := ?_) #[true, true, true, true, true, true, true, true, true, true, true, true, true, true] rfl rfl (by kernel_rfl) (fun _ _ _ h => h) (Or.inl ⟨by rfl, ?_⟩) ?_ ?_
            rotate_left
            · intro w'
              go_simp
              try with_reducible rfl
            rotate_left
            · simp only [Act.put, List.setIfInBounds_toArray, List.set_cons_zero, List.set_cons_succ, i64_w, i32_w]
              rfl
            refine done_ (by kernel_rfl) ?_
            go_wp2_with fail
            go_ret
            exact ⟨by simp, hHeld.b.be⟩
          · have m3 : (z3 == 0) = false := by simp [n3]
            have m3' : (z3 != 0) = true := by simp [n3]
            refine start_ (n := 14) (S := fun wx => Bk w wx y1 y2 un ud p9 p11 p13 x1 x2 y1 y2 z1 z2) (ds := []) #[false, false, false, false, false, false, false, false, false, false, false, false, false, false] (by kernel_rfl) rfl rfl (hBk.step (below_drew (Below.refl _ _))) (fun hHeld => ?_)
            refine pure_ (i := 0) (N := some 71) (v := ?_) (a' := ?_) #[true, false, false, false, false, false, false, false, false, false, false, false, false, false] rfl rfl (by kernel_rfl) (fun _ _ _ h => h) (Or.inl ⟨by rfl, ?_⟩) ?_ ?_
            rotate_left
            · intro w'
              go_simp
              try with_reducible rfl
            rotate_left
            · simp only [Act.put, List.setIfInBounds_toArray, List.set_cons_zero, List.set_cons_succ, i64_w, i32_w]
              rfl
            refine pure_ (i := 1) (N := some 72) (v := ?_) (a' := ?_) #[true, true, false, false, false, false, false, false, false, false, false, false, false, false] rfl rfl (by kernel_rfl) (fun _ _ _ h => h) (Or.inl ⟨by rfl, ?_⟩) ?_ ?_
            rotate_left
            · intro w'
              go_simp
              try with_reducible rfl
            rotate_left
            · simp only [Act.put, List.setIfInBounds_toArray, List.set_cons_zero, List.set_cons_succ, i64_w, i32_w]
              rfl
            refine pure_ (i := 2) (N := some 73) (v := ?_) (a' := ?_) #[true, true, true, false, false, false, false, false, false, false, false, false, false, false] rfl rfl (by kernel_rfl) (fun _ _ _ h => h) (Or.inl ⟨by rfl, ?_⟩) ?_ ?_
            rotate_left
            · intro w'
              go_simp
              try with_reducible rfl
            rotate_left
            · simp only [Act.put, List.setIfInBounds_toArray, List.set_cons_zero, List.set_cons_succ, i64_w, i32_w]
              rfl
            refine pure_ (i := 3) (N := some 74) (v := undef) (a' := ?_) #[true, true, true, true, false, false, false, false, false, false, false, false, false, false] rfl rfl (by kernel_rfl) (fun _ _ _ h => h) (Or.inr ⟨by rfl, rfl⟩) ?_ ?_
            rotate_left
            · simp only [Act.put, List.setIfInBounds_toArray, List.set_cons_zero, List.set_cons_succ, i64_w, i32_w]
              rfl
            refine pure_ (i := 4) (N := some 75) (v := undef) (a' := ?_) #[true, true, true, true, true, false, false, false, false, false, false, false, false, false] rfl rfl (by kernel_rfl) (fun _ _ _ h => h) (Or.inr ⟨by rfl, rfl⟩) ?_ ?_
            rotate_left
            · simp only [Act.put, List.setIfInBounds_toArray, List.set_cons_zero, List.set_cons_succ, i64_w, i32_w]
              rfl
            refine pure_ (i := 5) (N := some 76) (v := undef) (a' := ?_) #[true, true, true, true, true, true, false, false, false, false, false, false, false, false] rfl rfl (by kernel_rfl) (fun _ _ _ h => h) (Or.inr ⟨by rfl, rfl⟩) ?_ ?_
            rotate_left
            · simp only [Act.put, List.setIfInBounds_toArray, List.set_cons_zero, List.set_cons_succ, i64_w, i32_w]
              rfl
            refine pure_ (i := 6) (N := some 77) (v := undef) (a' := ?_) #[true, true, true, true, true, true, true, false, false, false, false, false, false, false] rfl rfl (by kernel_rfl) (fun _ _ _ h => h) (Or.inr ⟨by rfl, rfl⟩) ?_ ?_
            rotate_left
            · simp only [Act.put, List.setIfInBounds_toArray, List.set_cons_zero, List.set_cons_succ, i64_w, i32_w]
              rfl
            refine pure_ (i := 7) (N := some 78) (v := undef) (a' := ?_) #[true, true, true, true, true, true, true, true, false, false, false, false, false, false] rfl rfl (by kernel_rfl) (fun _ _ _ h => h) (Or.inr ⟨by rfl, rfl⟩) ?_ ?_
            rotate_left
            · simp only [Act.put, List.setIfInBounds_toArray, List.set_cons_zero, List.set_cons_succ, i64_w, i32_w]
              rfl
            refine pure_ (i := 8) (N := some 79) (v := undef) (a' := ?_) #[true, true, true, true, true, true, true, true, true, false, false, false, false, false] rfl rfl (by kernel_rfl) (fun _ _ _ h => h) (Or.inr ⟨by rfl, rfl⟩) ?_ ?_
            rotate_left
            · simp only [Act.put, List.setIfInBounds_toArray, List.set_cons_zero, List.set_cons_succ, i64_w, i32_w]
              rfl
            refine pure_ (i := 9) (N := some 80) (v := undef) (a' := ?_) #[true, true, true, true, true, true, true, true, true, true, false, false, false, false] rfl rfl (by kernel_rfl) (fun _ _ _ h => h) (Or.inr ⟨by rfl, rfl⟩) ?_ ?_
            rotate_left
            · simp only [Act.put, List.setIfInBounds_toArray, List.set_cons_zero, List.set_cons_succ, i64_w, i32_w]
              rfl
            refine pure_ (i := 10) (N := some 81) (v := undef) (a' := ?_) #[true, true, true, true, true, true, true, true, true, true, true, false, false, false] rfl rfl (by kernel_rfl) (fun _ _ _ h => h) (Or.inr ⟨by rfl, rfl⟩) ?_ ?_
            rotate_left
            · simp only [Act.put, List.setIfInBounds_toArray, List.set_cons_zero, List.set_cons_succ, i64_w, i32_w]
              rfl
            refine pure_ (i := 11) (N := some 82) (v := undef) (a' := ?_) #[true, true, true, true, true, true, true, true, true, true, true, true, false, false] rfl rfl (by kernel_rfl) (fun _ _ _ h => h) (Or.inr ⟨by rfl, rfl⟩) ?_ ?_
            rotate_left
            · simp only [Act.put, List.setIfInBounds_toArray, List.set_cons_zero, List.set_cons_succ, i64_w, i32_w]
              rfl
            refine pure_ (i := 12) (N := some 83) (v := ?_) (a' := ?_) #[true, true, true, true, true, true, true, true, true, true, true, true, true, false] rfl rfl (by kernel_rfl) (fun _ _ _ h => h) (Or.inl ⟨by rfl, ?_⟩) ?_ ?_
            rotate_left
            · intro w'
              go_simp
              try with_reducible rfl
            rotate_left
            · simp only [Act.put, List.setIfInBounds_toArray, List.set_cons_zero, List.set_cons_succ, i64_w, i32_w]
              rfl
            refine pure_ (i := 13) (N := some 8) (v := ?_) (a' := ?_) #[true, true, true, true, true, true, true, true, true, true, true, true, true, true] rfl rfl (by kernel_rfl) (fun _ _ _ h => h) (Or.inl ⟨by rfl, ?_⟩) ?_ ?_
            rotate_left
            · intro w'
              go_simp
              try with_reducible rfl
            rotate_left
            · simp only [Act.put, List.setIfInBounds_toArray, List.set_cons_zero, List.set_cons_succ, i64_w, i32_w]
              rfl
            refine done_ (by kernel_rfl) ?_
            go_wp2_with fail
            go_ret
            exact ⟨by simp, hHeld.b.be⟩
        · have m2 : (y3 == 0) = false := by simp [n2]
          go_wp2_with fail
          obtain ⟨p9, hp9⟩ : ∃ p, p = w4.heap.size := ⟨_, rfl⟩
          obtain ⟨p11, hp11⟩ : ∃ p, p = w5.heap.size := ⟨_, rfl⟩
          obtain ⟨p13, hp13⟩ : ∃ p, p = w7.heap.size := ⟨_, rfl⟩
          obtain ⟨w8, hw8⟩ : ∃ w8, w8 = w7.alloc (.cells #[.int .i64 z1, .int .i64 z2] 29) := ⟨_, rfl⟩
          rw [← hp9, ← hp11, ← hp13, ← hw8] at hBk
          rw [← hp9, ← hp11, ← hp13, ← hw8]
          clear hp9 hp11 hp13 hw8
          refine start_ (n := 8) (S := fun wx => Bk w wx vn vd un ud p9 p11 p13 x1 x2 y1 y2 z1 z2) (ds := []) #[false, false, false, false, false, false, false, false] (by kernel_rfl) rfl rfl (hBk.step (below_drew (Below.refl _ _))) (fun hHeld => ?_)
          refine pure_ (i := 0) (N := some 63) (v := ?_) (a' := ?_) #[true, false, false, false, false, false, false, false] rfl rfl (by kernel_rfl) (fun _ _ _ h => h) (Or.inl ⟨by rfl, ?_⟩) ?_ ?_
          rotate_left
          · intro w'
            go_simp
            try with_reducible rfl
          rotate_left
          · simp only [Act.put, List.setIfInBounds_toArray, List.set_cons_zero, List.set_cons_succ, i64_w, i32_w]
            rfl
          refine pure_ (i := 1) (N := some 64) (v := ?_) (a' := ?_) #[true, true, false, false, false, false, false, false] rfl rfl (by kernel_rfl) (fun _ _ _ h => h) (Or.inl ⟨by rfl, ?_⟩) ?_ ?_
          rotate_left
          · intro w'
            go_simp
            try with_reducible rfl
          rotate_left
          · simp only [Act.put, List.setIfInBounds_toArray, List.set_cons_zero, List.set_cons_succ, i64_w, i32_w]
            rfl
          refine pure_ (i := 2) (N := some 65) (v := ?_) (a' := ?_) #[true, true, true, false, false, false, false, false] rfl rfl (by kernel_rfl) (fun _ _ _ h => h) (Or.inl ⟨by rfl, ?_⟩) ?_ ?_
          rotate_left
          · intro w'
            go_simp
            try with_reducible rfl
          rotate_left
          · simp only [Act.put, List.setIfInBounds_toArray, List.set_cons_zero, List.set_cons_succ, i64_w, i32_w]
            rfl
          refine pure_ (i := 3) (N := some 66) (v := undef) (a' := ?_) #[true, true, true, true, false, false, false, false] rfl rfl (by kernel_rfl) (fun _ _ _ h => h) (Or.inr ⟨by rfl, rfl⟩) ?_ ?_
          rotate_left
          · simp only [Act.put, List.setIfInBounds_toArray, List.set_cons_zero, List.set_cons_succ, i64_w, i32_w]
            rfl
          refine pure_ (i := 4) (N := some 67) (v := undef) (a' := ?_) #[true, true, true, true, true, false, false, false] rfl rfl (by kernel_rfl) (fun _ _ _ h => h) (Or.inr ⟨by rfl, rfl⟩) ?_ ?_
          rotate_left
          · simp only [Act.put, List.setIfInBounds_toArray, List.set_cons_zero, List.set_cons_succ, i64_w, i32_w]
            rfl
          refine pure_ (i := 5) (N := some 68) (v := undef) (a' := ?_) #[true, true, true, true, true, true, false, false] rfl rfl (by kernel_rfl) (fun _ _ _ h => h) (Or.inr ⟨by rfl, rfl⟩) ?_ ?_
          rotate_left
          · simp only [Act.put, List.setIfInBounds_toArray, List.set_cons_zero, List.set_cons_succ, i64_w, i32_w]
            rfl
          refine pure_ (i := 6) (N := some 69) (v := undef) (a' := ?_) #[true, true, true, true, true, true, true, false] rfl rfl (by kernel_rfl) (fun _ _ _ h => h) (Or.inr ⟨by rfl, rfl⟩) ?_ ?_
          rotate_left
          · simp only [Act.put, List.setIfInBounds_toArray, List.set_cons_zero, List.set_cons_succ, i64_w, i32_w]
            rfl
          refine pure_ (i := 7) (N := some 70) (v := ?_) (a' := ?_) #[true, true, true, true, true, true, true, true] rfl rfl (by kernel_rfl) (fun _ _ _ h => h) (Or.inl ⟨by rfl, ?_⟩) ?_ ?_
          rotate_left
          · intro w'
            go_simp
            try with_reducible rfl
          rotate_left
          · simp only [Act.put, List.setIfInBounds_toArray, List.set_cons_zero, List.set_cons_succ, i64_w, i32_w]
            rfl
          refine done_ (by kernel_rfl) ?_
          clear hBk
          have hBk := hHeld
          clear hHeld
          go_wp2_with fail
          by_cases n3 : z3 = 0
          · have hpq := HB2.out (by trivial) (by trivial) (by trivial) n3
            subst n3 hpq
            refine start_ (n := 14) (S := fun wx => Bk w wx vn vd un ud p9 p11 p13 x1 x2 y1 y2 z1 z2) (ds := []) #[false, false, false, false, false, false, false, false, false, false, false, false, false, false] (by kernel_rfl) rfl rfl (hBk.step (below_drew (Below.refl _ _))) (fun hHeld => ?_)
            refine pure_ (i := 0) (N := some 71) (v := ?_) (a' := ?_) #[true, false, false, false, false, false, false, false, false, false, false, false, false, false] rfl rfl (by kernel_rfl) (fun _ _ _ h => h) (Or.inl ⟨by rfl, ?_⟩) ?_ ?_
            rotate_left
            · intro w'
              go_simp
              try with_reducible rfl
            rotate_left
            · simp only [Act.put, List.setIfInBounds_toArray, List.set_cons_zero, List.set_cons_succ, i64_w, i32_w]
              rfl
            refine pure_ (i := 1) (N := some 72) (v := ?_) (a' := ?_) #[true, true, false, false, false, false, false, false, false, false, false, false, false, false] rfl rfl (by kernel_rfl) (fun _ _ _ h => h) (Or.inl ⟨by rfl, ?_⟩) ?_ ?_
            rotate_left
            · intro w'
              go_simp
              try with_reducible rfl
            rotate_left
            · simp only [Act.put, List.setIfInBounds_toArray, List.set_cons_zero, List.set_cons_succ, i64_w, i32_w]
              rfl
            refine pure_ (i := 2) (N := some 73) (v := ?_) (a' := ?_) #[true, true, true, false, false, false, false, false, false, false, false, false, false, false] rfl rfl (by kernel_rfl) (fun _ _ _ h => h) (Or.inl ⟨by rfl, ?_⟩) ?_ ?_
            rotate_left
            · intro w'
              go_simp
              try with_reducible rfl
            rotate_left
            · simp only [Act.put, List.setIfInBounds_toArray, List.set_cons_zero, List.set_cons_succ, i64_w, i32_w]
              rfl
            refine take_ (i := 3) (N := some 74) (v := ?_) (a' := ?_) #[true, true, true, true, false, false, false, false, false, false, false, false, false, false] rfl rfl (by kernel_rfl) (fun _ _ _ h => h) (Or.inl ⟨by rfl, ?_⟩) hHeld ?_ ?_
            rotate_left
            · rintro w' hh
              have v0 : w'.cell? ⟨w.heap.size, 0, none⟩ = some (.int .i64 vn) := blk_cell hh.b.b1 0
              have v1 : w'.cell? ⟨w.heap.size, 1, none⟩ = some (.int .i64 vd) := blk_cell hh.b.b1 1
              have u0 : w'.cell? ⟨w.heap.size + 1, 0, none⟩ = some (.int .i64 un) := blk_cell hh.b.b2 0
              have u1 : w'.cell? ⟨w.heap.size + 1, 1, none⟩ = some (.int .i64 ud) := blk_cell hh.b.b2 1
              have x0 : w'.cell? ⟨p9, 0, none⟩ = some (.int .i64 x1) := blk_cell hh.k9 0
              have xx : w'.cell? ⟨p9, 1, none⟩ = some (.int .i64 x2) := blk_cell hh.k9 1
              have y0 : w'.cell? ⟨p11, 0, none⟩ = some (.int .i64 y1) := blk_cell hh.k11 0
              have yy : w'.cell? ⟨p11, 1, none⟩ = some (.int .i64 y2) := blk_cell hh.k11 1
              have z0 : w'.cell? ⟨p13, 0, none⟩ = some (.int .i64 z1) := blk_cell hh.k13 0
              have zz : w'.cell? ⟨p13, 1, none⟩ = some (.int .i64 z2) := blk_cell hh.k13 1
              go_simp
              with_reducible rfl
            rotate_left
            · simp only [Act.put, List.setIfInBounds_toArray, List.set_cons_zero, List.set_cons_succ, i64_w, i32_w]
              rfl
            refine take_ (i := 5) (N := some 76) (v := ?_) (a' := ?_) #[true, true, true, true, false, true, false, false, false, false, false, false, false, false] rfl rfl (by kernel_rfl) (fun _ _ _ h => h) (Or.inl ⟨by rfl, ?_⟩) hHeld ?_ ?_
            rotate_left
            · rintro w' hh
              have v0 : w'.cell? ⟨w.heap.size, 0, none⟩ = some (.int .i64 vn) := blk_cell hh.b.b1 0
              have v1 : w'.cell? ⟨w.heap.size, 1, none⟩ = some (.int .i64 vd) := blk_cell hh.b.b1 1
              have u0 : w'.cell? ⟨w.heap.size + 1, 0, none⟩ = some (.int .i64 un) := blk_cell hh.b.b2 0
              have u1 : w'.cell? ⟨w.heap.size + 1, 1, none⟩ = some (.int .i64 ud) := blk_cell hh.b.b2 1
              have x0 : w'.cell? ⟨p9, 0, none⟩ = some (.int .i64 x1) := blk_cell hh.k9 0
              have xx : w'.cell? ⟨p9, 1, none⟩ = some (.int .i64 x2) := blk_cell hh.k9 1
              have y0 : w'.cell? ⟨p11, 0, none⟩ = some (.int .i64 y1) := blk_cell hh.k11 0
              have yy : w'.cell? ⟨p11, 1, none⟩ = some (.int .i64 y2) := blk_cell hh.k11 1
              have z0 : w'.cell? ⟨p13, 0, none⟩ = some (.int .i64 z1) := blk_cell hh.k13 0
              have zz : w'.cell? ⟨p13, 1, none⟩ = some (.int .i64 z2) := blk_cell hh.k13 1
              go_simp
              with_reducible rfl
            rotate_left
            · simp only [Act.put, List.setIfInBounds_toArray, List.set_cons_zero, List.set_cons_succ, i64_w, i32_w]
              rfl
            refine take_ (i := 8) (N := some 79) (v := ?_) (a' := ?_) #[true, true, true, true, false, true, false, false, true, false, false, false, false, false] rfl rfl (by kernel_rfl) (fun _ _ _ h => h) (Or.inl ⟨by rfl, ?_⟩) hHeld ?_ ?_
            rotate_left
            · rintro w' hh
              have v0 : w'.cell? ⟨w.heap.size, 0, none⟩ = some (.int .i64 vn) := blk_cell hh.b.b1 0
              have v1 : w'.cell? ⟨w.heap.size, 1, none⟩ = some (.int .i64 vd) := blk_cell hh.b.b1 1
              have u0 : w'.cell? ⟨w.heap.size + 1, 0, none⟩ = some (.int .i64 un) := blk_cell hh.b.b2 0
              have u1 : w'.cell? ⟨w.heap.size + 1, 1, none⟩ = some (.int .i64 ud) := blk_cell hh.b.b2 1
              have x0 : w'.cell? ⟨p9, 0, none⟩ = some (.int .i64 x1) := blk_cell hh.k9 0
              have xx : w'.cell? ⟨p9, 1, none⟩ = some (.int .i64 x2) := blk_cell hh.k9 1
              have y0 : w'.cell? ⟨p11, 0, none⟩ = some (.int .i64 y1) := blk_cell hh.k11 0
              have yy : w'.cell? ⟨p11, 1, none⟩ = some (.int .i64 y2) := blk_cell hh.k11 1
              have z0 : w'.cell? ⟨p13, 0, none⟩ = some (.int .i64 z1) := blk_cell hh.k13 0
              have zz : w'.cell? ⟨p13, 1, none⟩ = some (.int .i64 z2) := blk_cell hh.k13 1
              go_simp
              with_reducible rfl
            rotate_left
            · simp only [Act.put, List.setIfInBounds_toArray, List.set_cons_zero, List.set_cons_succ, i64_w, i32_w]
              rfl
            refine take_ (i := 9) (N := some 80) (v := ?_) (a' := ?_) #[true, true, true, true, false, true, false, false, true, true, false, false, false, false] rfl rfl (by kernel_rfl) (fun _ _ _ h => h) (Or.inl ⟨by rfl, ?_⟩) hHeld ?_ ?_
            rotate_left
            · rintro w' hh
              have v0 : w'.cell? ⟨w.heap.size, 0, none⟩ = some (.int .i64 vn) := blk_cell hh.b.b1 0
              have v1 : w'.cell? ⟨w.heap.size, 1, none⟩ = some (.int .i64 vd) := blk_cell hh.b.b1 1
              have u0 : w'.cell? ⟨w.heap.size + 1, 0, none⟩ = some (.int .i64 un) := blk_cell hh.b.b2 0
              have u1 : w'.cell? ⟨w.heap.size + 1, 1, none⟩ = some (.int .i64 ud) := blk_cell hh.b.b2 1
              have x0 : w'.cell? ⟨p9, 0, none⟩ = some (.int .i64 x1) := blk_cell hh.k9 0
              have xx : w'.cell? ⟨p9, 1, none⟩ = some (.int .i64 x2) := blk_cell hh.k9 1
              have y0 : w'.cell? ⟨p11, 0, none⟩ = some (.int .i64 y1) := blk_cell hh.k11 0
              have yy : w'.cell? ⟨p11, 1, none⟩ = some (.int .i64 y2) := blk_cell hh.k11 1
              have z0 : w'.cell? ⟨p13, 0, none⟩ = some (.int .i64 z1) := blk_cell hh.k13 0
              have zz : w'.cell? ⟨p13, 1, none⟩ = some (.int .i64 z2) := blk_cell hh.k13 1
              go_simp
              with_reducible rfl
            rotate_left
            · simp only [Act.put, List.setIfInBounds_toArray, List.set_cons_zero, List.set_cons_succ, i64_w, i32_w]
              rfl
            refine one_ (i := 4) (N := some 75) #[true, true, true, true, true, true, false, false, true, true, false, false, false, false] rfl rfl (by kernel_rfl) (by decide) (fun K hK => ?_)
            refine goes_ Try.func25 (by kernel_rfl) rfl #[.agg #[.int .i64 vn, .int .i64 vd]] (by rfl) rfl rfl (by (try simp only [List.map_toArray, List.map_cons, List.map_nil]); first | done | rfl) ?_
            refine (of02_calls vn vd _).mono ?_
            rintro e wz ⟨rfl, hb_⟩
            refine ⟨_, rfl, ?_⟩
            refine hK.out _ _ (hHeld.step hb_) (fun hHeld => ?_)
            clear hK K
            refine norm_ (a' := ?_) ?_ ?_
            rotate_left
            · show Act.put _ (some 75) _ = _
              simp only [Act.put, List.setIfInBounds_toArray, List.set_cons_zero, List.set_cons_succ, i64_w, i32_w]
              rfl
            refine one_ (i := 6) (N := some 77) #[true, true, true, true, true, true, true, false, true, true, false, false, false, false] rfl rfl (by kernel_rfl) (by decide) (fun K hK => ?_)
            refine goes_ Try.func25 (by kernel_rfl) rfl #[.agg #[.int .i64 un, .int .i64 ud]] (by rfl) rfl rfl (by (try simp only [List.map_toArray, List.map_cons, List.map_nil]); first | done | rfl) ?_
            refine (of02_calls un ud _).mono ?_
            rintro e wz ⟨rfl, hb_⟩
            refine ⟨_, rfl, ?_⟩
            refine hK.out _ _ (hHeld.step hb_) (fun hHeld => ?_)
            clear hK K
            refine norm_ (a' := ?_) ?_ ?_
            rotate_left
            · show Act.put _ (some 77) _ = _
              simp only [Act.put, List.setIfInBounds_toArray, List.set_cons_zero, List.set_cons_succ, i64_w, i32_w]
              rfl
            refine one_ (i := 7) (N := some 78) #[true, true, true, true, true, true, true, true, true, true, false, false, false, false] rfl rfl (by kernel_rfl) (by decide) (fun K hK => ?_)
            refine goes_ Try.func27 (by kernel_rfl) rfl #[.agg #[.int .i64 vn, .int .i64 vd], .agg #[.int .i64 un, .int .i64 ud]] (by rfl) rfl rfl (by (try simp only [List.map_toArray, List.map_cons, List.map_nil]); first | done | rfl) ?_
            refine (L1.out _).mono ?_
            rintro e wz ⟨rfl, hb_⟩
            refine ⟨_, rfl, ?_⟩
            refine hK.out _ _ (hHeld.step hb_) (fun hHeld => ?_)
            clear hK K
            refine norm_ (a' := ?_) ?_ ?_
            rotate_left
            · show Act.put _ (some 78) _ = _
              simp only [Act.put, List.setIfInBounds_toArray, List.set_cons_zero, List.set_cons_succ, i64_w, i32_w]
              rfl
            refine one_ (i := 10) (N := some 81) #[true, true, true, true, true, true, true, true, true, true, true, false, false, false] rfl rfl (by kernel_rfl) (by decide) (fun K hK => ?_)
            refine goes_ Try.func27 (by kernel_rfl) rfl #[.agg #[.int .i64 x1, .int .i64 x2], .agg #[.int .i64 z1, .int .i64 z2]] (by rfl) rfl rfl (by (try simp only [List.map_toArray, List.map_cons, List.map_nil]); first | done | rfl) ?_
            refine (L2.out _).mono ?_
            rintro e wz ⟨rfl, hb_⟩
            refine ⟨_, rfl, ?_⟩
            refine hK.out _ _ (hHeld.step hb_) (fun hHeld => ?_)
            clear hK K
            refine norm_ (a' := ?_) ?_ ?_
            rotate_left
            · show Act.put _ (some 81) _ = _
              simp only [Act.put, List.setIfInBounds_toArray, List.set_cons_zero, List.set_cons_succ, i64_w, i32_w]
              rfl
            refine pure_ (i := 11) (N := some 82) (v := ?_) (a' := ?_) #[true, true, true, true, true, true, true, true, true, true, true, true, false, false] rfl rfl (by kernel_rfl) (fun _ _ _ h => h) (Or.inl ⟨by rfl, ?_⟩) ?_ ?_
            rotate_left
            · intro w'
              go_simp
              try with_reducible rfl
            rotate_left
            · simp only [Act.put, List.setIfInBounds_toArray, List.set_cons_zero, List.set_cons_succ, i64_w, i32_w]
              rfl
            refine pure_ (i := 12) (N := some 83) (v := ?_) (a' := ?_) #[true, true, true, true, true, true, true, true, true, true, true, true, true, false] rfl rfl (by kernel_rfl) (fun _ _ _ h => h) (Or.inl ⟨by rfl, ?_⟩) ?_ ?_
            rotate_left
            · intro w'
              go_simp
              try with_reducible rfl
            rotate_left
            · simp only [Act.put, List.setIfInBounds_toArray, List.set_cons_zero, List.set_cons_succ, i64_w, i32_w]
              rfl
            refine pure_ (i := 13) (N := some 8) (v := ?_) (a' := ?_) #[true, true, true, true, true, true, true, true, true, true, true, true, true, true] rfl rfl (by kernel_rfl) (fun _ _ _ h => h) (Or.inl ⟨by rfl, ?_⟩) ?_ ?_
            rotate_left
            · intro w'
              go_simp
              try with_reducible rfl
            rotate_left
            · simp only [Act.put, List.setIfInBounds_toArray, List.set_cons_zero, List.set_cons_succ, i64_w, i32_w]
              rfl
            refine done_ (by kernel_rfl) ?_
            go_wp2_with fail
            go_ret
            exact ⟨by simp, hHeld.b.be⟩
          · have m3 : (z3 == 0) = false := by simp [n3]
            have m3' : (z3 != 0) = true := by simp [n3]
            refine start_ (n := 14) (S := fun wx => Bk w wx vn vd un ud p9 p11 p13 x1 x2 y1 y2 z1 z2) (ds := []) #[false, false, false, false, false, false, false, false, false, false, false, false, false, false] (by kernel_rfl) rfl rfl (hBk.step (below_drew (Below.refl _ _))) (fun hHeld => ?_)
            refine pure_ (i := 0) (N := some 71) (v := ?_) (a' := ?_) #[true, false, false, false, false, false, false, false, false, false, false, false, false, false] rfl rfl (by kernel_rfl) (fun _ _ _ h => h) (Or.inl ⟨by rfl, ?_⟩) ?_ ?_
            rotate_left
            · intro w'
              go_simp
              try with_reducible rfl
            rotate_left
            · simp only [Act.put, List.setIfInBounds_toArray, List.set_cons_zero, List.set_cons_succ, i64_w, i32_w]
              rfl
            refine pure_ (i := 1) (N := some 72) (v := ?_) (a' := ?_) #[true, true, false, false, false, false, false, false, false, false, false, false, false, false] rfl rfl (by kernel_rfl) (fun _ _ _ h => h) (Or.inl ⟨by rfl, ?_⟩) ?_ ?_
            rotate_left
            · intro w'
              go_simp
              try with_reducible rfl
            rotate_left
            · simp only [Act.put, List.setIfInBounds_toArray, List.set_cons_zero, List.set_cons_succ, i64_w, i32_w]
              rfl
            refine pure_ (i := 2) (N := some 73) (v := ?_) (a' := ?_) #[true, true, true, false, false, false, false, false, false, false, false, false, false, false] rfl rfl (by kernel_rfl) (fun _ _ _ h => h) (Or.inl ⟨by rfl, ?_⟩) ?_ ?_
            rotate_left
            · intro w'
              go_simp
              try with_reducible rfl
            rotate_left
            · simp only [Act.put, List.setIfInBounds_toArray, List.set_cons_zero, List.set_cons_succ, i64_w, i32_w]
              rfl
            refine pure_ (i := 3) (N := some 74) (v := undef) (a' := ?_) #[true, true, true, true, false, false, false, false, false, false, false, false, false, false] rfl rfl (by kernel_rfl) (fun _ _ _ h => h) (Or.inr ⟨by rfl, rfl⟩) ?_ ?_
            rotate_left
            · simp only [Act.put, List.setIfInBounds_toArray, List.set_cons_zero, List.set_cons_succ, i64_w, i32_w]
              rfl
            refine pure_ (i := 4) (N := some 75) (v := undef) (a' := ?_) #[true, true, true, true, true, false, false, false, false, false, false, false, false, false] rfl rfl (by kernel_rfl) (fun _ _ _ h => h) (Or.inr ⟨by rfl, rfl⟩) ?_ ?_
            rotate_left
            · simp only [Act.put, List.setIfInBounds_toArray, List.set_cons_zero, List.set_cons_succ, i64_w, i32_w]
              rfl
            refine pure_ (i := 5) (N := some 76) (v := undef) (a' := ?_) #[true, true, true, true, true, true, false, false, false, false, false, false, false, false] rfl rfl (by kernel_rfl) (fun _ _ _ h => h) (Or.inr ⟨by rfl, rfl⟩) ?_ ?_
            rotate_left
            · simp only [Act.put, List.setIfInBounds_toArray, List.set_cons_zero, List.set_cons_succ, i64_w, i32_w]
              rfl
            refine pure_ (i := 6) (N := some 77) (v := undef) (a' := ?_) #[true, true, true, true, true, true, true, false, false, false, false, false, false, false] rfl rfl (by kernel_rfl) (fun _ _ _ h => h) (Or.inr ⟨by rfl, rfl⟩) ?_ ?_
            rotate_left
            · simp only [Act.put, List.setIfInBounds_toArray, List.set_cons_zero, List.set_cons_succ, i64_w, i32_w]
              rfl
            refine pure_ (i := 7) (N := some 78) (v := undef) (a' := ?_) #[true, true, true, true, true, true, true, true, false, false, false, false, false, false] rfl rfl (by kernel_rfl) (fun _ _ _ h => h) (Or.inr ⟨by rfl, rfl⟩) ?_ ?_
            rotate_left
            · simp only [Act.put, List.setIfInBounds_toArray, List.set_cons_zero, List.set_cons_succ, i64_w, i32_w]
              rfl
            refine pure_ (i := 8) (N := some 79) (v := undef) (a' := ?_) #[true, true, true, true, true, true, true, true, true, false, false, false, false, false] rfl rfl (by kernel_rfl) (fun _ _ _ h => h) (Or.inr ⟨by rfl, rfl⟩) ?_ ?_
            rotate_left
            · simp only [Act.put, List.setIfInBounds_toArray, List.set_cons_zero, List.set_cons_succ, i64_w, i32_w]
              rfl
            refine pure_ (i := 9) (N := some 80) (v := undef) (a' := ?_) #[true, true, true, true, true, true, true, true, true, true, false, false, false, false] rfl rfl (by kernel_rfl) (fun _ _ _ h => h) (Or.inr ⟨by rfl, rfl⟩) ?_ ?_
            rotate_left
            · simp only [Act.put, List.setIfInBounds_toArray, List.set_cons_zero, List.set_cons_succ, i64_w, i32_w]
              rfl
            refine pure_ (i := 10) (N := some 81) (v := undef) (a' := ?_) #[true, true, true, true, true, true, true, true, true, true, true, false, false, false] rfl rfl (by kernel_rfl) (fun _ _ _ h => h) (Or.inr ⟨by rfl, rfl⟩) ?_ ?_
            rotate_left
            · simp only [Act.put, List.setIfInBounds_toArray, List.set_cons_zero, List.set_cons_succ, i64_w, i32_w]
              rfl
            refine pure_ (i := 11) (N := some 82) (v := undef) (a' := ?_) #[true, true, true, true, true, true, true, true, true, true, true, true, false, false] rfl rfl (by kernel_rfl) (fun _ _ _ h => h) (Or.inr ⟨by rfl, rfl⟩) ?_ ?_
            rotate_left
            · simp only [Act.put, List.setIfInBounds_toArray, List.set_cons_zero, List.set_cons_succ, i64_w, i32_w]
              rfl
            refine pure_ (i := 12) (N := some 83) (v := ?_) (a' := ?_) #[true, true, true, true, true, true, true, true, true, true, true, true, true, false] rfl rfl (by kernel_rfl) (fun _ _ _ h => h) (Or.inl ⟨by rfl, ?_⟩) ?_ ?_
            rotate_left
            · intro w'
              go_simp
              try with_reducible rfl
            rotate_left
            · simp only [Act.put, List.setIfInBounds_toArray, List.set_cons_zero, List.set_cons_succ, i64_w, i32_w]
              rfl
            refine pure_ (i := 13) (N := some 8) (v := ?_) (a' := ?_) #[true, true, true, true, true, true, true, true, true, true, true, true, true, true] rfl rfl (by kernel_rfl) (fun _ _ _ h => h) (Or.inl ⟨by rfl, ?_⟩) ?_ ?_
            rotate_left
            · intro w'
              go_simp
              try with_reducible rfl
            rotate_left
            · simp only [Act.put, List.setIfInBounds_toArray, List.set_cons_zero, List.set_cons_succ, i64_w, i32_w]
              rfl
            refine done_ (by kernel_rfl) ?_
            go_wp2_with fail
            go_ret
            exact ⟨by simp, hHeld.b.be⟩
      · have m1 : (x3 == 0) = false := by simp [n1]
        go_wp2_with fail
        go_ret
        exact ⟨by simp, hB.be⟩
end Go.Proofs.Ytcldlfhnmkogeaa.UnitBackWalk

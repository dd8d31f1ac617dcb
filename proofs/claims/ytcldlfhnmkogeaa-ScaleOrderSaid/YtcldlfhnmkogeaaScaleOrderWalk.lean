import Derived.Test.YtcldlfhnmkogeaaScaleLaw
import Derived.Test.YtcldlfhnmkogeaaScaleOrderFacts
/- The law ScaleOrder, walked. -/
set_option linter.unusedVariables false
set_option linter.unusedSimpArgs false
namespace Go.Proofs.Ytcldlfhnmkogeaa.ScaleOrderWalk
open Go.RowKit Go.Proofs.YtcldlfhnmkogeaaW.PrintWords Go.Proofs.YtcldlfhnmkogeaaW.PrintLast Go.Proofs.Ytcldlfhnmkogeaa.Nats Go.Proofs.Ytcldlfhnmkogeaa.HeapKit Go.Proofs.Ytcldlfhnmkogeaa.RatPlain Go.Proofs.Ytcldlfhnmkogeaa.Scale
set_option maxRecDepth 100000 in
set_option maxHeartbeats 4000000 in
theorem walk (f0 : ByteArray) (f1 : Int) (f2 : ByteArray) (f3 sn sd on od : Int) (f8 : ByteArray) (a b : Int) (hsn : I64 sn) (hsd : I64 sd) (hon : I64 on) (hod : I64 od) (ha : I64 a) (hb : I64 b) (w : World) :
    Calls Try.prog 6 #[.agg #[.string f0, .int .i64 f1, .string f2, .int .i64 f3, .int .i64 sn, .int .i64 sd, .int .i64 on, .int .i64 od, .string f8], .int .i64 a, .int .i64 b] w fun e w' => e = .returned (.bool true) ∧ Below w.heap.size w w' := by
  have hv := fun w => value_calls f0 f1 f2 f3 sn sd on od f8 a hsn hsd hon hod ha w
  have hw := fun w => value_calls f0 f1 f2 f3 sn sd on od f8 b hsn hsd hon hod hb w
  have iV := value_In (sn := sn) (sd := sd) (on := on) (od := od) ha
  have iW := value_In (sn := sn) (sd := sd) (on := on) (od := od) hb
  have hor := @order sn sd on od a b
  obtain ⟨⟨v1, v2, v3⟩, hr⟩ : ∃ r, valueR sn sd on od a = r := ⟨_, rfl⟩
  obtain ⟨⟨y1, y2, y3⟩, hq⟩ : ∃ r, valueR sn sd on od b = r := ⟨_, rfl⟩
  simp only [hr, ans] at hv
  simp only [hq, ans] at hw
  rw [hr] at iV
  rw [hq] at iW
  have hord := fun (e1 : v3 = 0) (e2 : y3 = 0) => @hor v1 v2 y1 y2 (by rw [hr, e1]) (by rw [hq, e2])
  have hl1 := fun w => less_calls iV.1 iV.2 iW.1 iW.2 w
  have hl2 := fun w => less_calls iW.1 iW.2 iV.1 iV.2 w
  obtain ⟨up, hup⟩ : ∃ up, lessB v1 v2 y1 y2 = up := ⟨_, rfl⟩
  obtain ⟨dn, hdn⟩ : ∃ dn, lessB y1 y2 v1 v2 = dn := ⟨_, rfl⟩
  rw [hup, hdn] at hord
  have hup' : decide ((Rt v1 v2 ∧ Rt y1 y2) ∧ v1 * y2 < y1 * v2) = up := hup
  have hdn' : decide ((Rt y1 y2 ∧ Rt v1 v2) ∧ y1 * v2 < v1 * y2) = dn := hdn
  simp only [hup'] at hl1
  simp only [hdn'] at hl2
  have HV := Lib.hid hv
  have HW := Lib.hid hw
  have HL1 := Lib.hid hl1
  have HL2 := Lib.hid hl2
  have HO := Lib.hid hord
  clear hv hw hr hq hor hord hl1 hl2 hup hdn hup' hdn'
  go_enter Try.func6, Try.ntmps6
  go_wp2_with fail
  refine (awake_calls _).mono ?_
  rintro e w1 ⟨rfl, hb1⟩
  have hB := (b1_start w (.cells #[.string f0, .int .i64 f1, .string f2, .int .i64 f3, .int .i64 sn, .int .i64 sd, .int .i64 on, .int .i64 od, .string f8] 25)).step hb1
  clear hb1
  have a0 : w1.cell? ⟨w.heap.size, 0, none⟩ = some (.string f0) := blk_cell hB.b1 0
  have a1 : w1.cell? ⟨w.heap.size, 1, none⟩ = some (.int .i64 f1) := blk_cell hB.b1 1
  have a2 : w1.cell? ⟨w.heap.size, 2, none⟩ = some (.string f2) := blk_cell hB.b1 2
  have a3 : w1.cell? ⟨w.heap.size, 3, none⟩ = some (.int .i64 f3) := blk_cell hB.b1 3
  have a4 : w1.cell? ⟨w.heap.size, 4, none⟩ = some (.int .i64 sn) := blk_cell hB.b1 4
  have a5 : w1.cell? ⟨w.heap.size, 5, none⟩ = some (.int .i64 sd) := blk_cell hB.b1 5
  have a6 : w1.cell? ⟨w.heap.size, 6, none⟩ = some (.int .i64 on) := blk_cell hB.b1 6
  have a7 : w1.cell? ⟨w.heap.size, 7, none⟩ = some (.int .i64 od) := blk_cell hB.b1 7
  have a8 : w1.cell? ⟨w.heap.size, 8, none⟩ = some (.string f8) := blk_cell hB.b1 8
  go_wp2_with fail
  refine (few_calls f0 f1 f2 f3 sn sd on od f8 _).mono ?_
  rintro e w2 ⟨he, hb2⟩
  replace hB := hB.step hb2
  clear hb2
  clear a0 a1 a2 a3 a4 a5 a6 a7 a8
  rcases he with rfl | rfl
  · go_wp2_with fail
    refine (awake_calls _).mono ?_
    rintro e w3 ⟨rfl, hb3⟩
    replace hB := hB.step hb3
    go_wp2_with fail
    go_ret
    exact ⟨rfl, hB.be⟩
  · skip
    have a0 : w2.cell? ⟨w.heap.size, 0, none⟩ = some (.string f0) := blk_cell hB.b1 0
    have a1 : w2.cell? ⟨w.heap.size, 1, none⟩ = some (.int .i64 f1) := blk_cell hB.b1 1
    have a2 : w2.cell? ⟨w.heap.size, 2, none⟩ = some (.string f2) := blk_cell hB.b1 2
    have a3 : w2.cell? ⟨w.heap.size, 3, none⟩ = some (.int .i64 f3) := blk_cell hB.b1 3
    have a4 : w2.cell? ⟨w.heap.size, 4, none⟩ = some (.int .i64 sn) := blk_cell hB.b1 4
    have a5 : w2.cell? ⟨w.heap.size, 5, none⟩ = some (.int .i64 sd) := blk_cell hB.b1 5
    have a6 : w2.cell? ⟨w.heap.size, 6, none⟩ = some (.int .i64 on) := blk_cell hB.b1 6
    have a7 : w2.cell? ⟨w.heap.size, 7, none⟩ = some (.int .i64 od) := blk_cell hB.b1 7
    have a8 : w2.cell? ⟨w.heap.size, 8, none⟩ = some (.string f8) := blk_cell hB.b1 8
    go_wp2_with fail
    refine (of_calls f0 f1 f2 f3 sn sd on od f8 _).mono ?_
    rintro e w3 ⟨rfl, hb3⟩
    replace hB := hB.step hb3
    clear hb3
    go_wp2_with fail
    refine (HV.out _).mono ?_
    rintro e w4 ⟨rfl, hb4⟩
    replace hB := hB.step hb4
    clear hb4
    have h8 := hB.size
    have ky := blk_new w4 (.cells #[.int .i64 v1, .int .i64 v2] 29)
    replace hB := hB.step (below_alloc (Below.refl _ _) (.cells #[.int .i64 v1, .int .i64 v2] 29))
    have a0 : (w4.alloc (.cells #[.int .i64 v1, .int .i64 v2] 29)).cell? ⟨w.heap.size, 0, none⟩ = some (.string f0) := blk_cell hB.b1 0
    have a1 : (w4.alloc (.cells #[.int .i64 v1, .int .i64 v2] 29)).cell? ⟨w.heap.size, 1, none⟩ = some (.int .i64 f1) := blk_cell hB.b1 1
    have a2 : (w4.alloc (.cells #[.int .i64 v1, .int .i64 v2] 29)).cell? ⟨w.heap.size, 2, none⟩ = some (.string f2) := blk_cell hB.b1 2
    have a3 : (w4.alloc (.cells #[.int .i64 v1, .int .i64 v2] 29)).cell? ⟨w.heap.size, 3, none⟩ = some (.int .i64 f3) := blk_cell hB.b1 3
    have a4 : (w4.alloc (.cells #[.int .i64 v1, .int .i64 v2] 29)).cell? ⟨w.heap.size, 4, none⟩ = some (.int .i64 sn) := blk_cell hB.b1 4
    have a5 : (w4.alloc (.cells #[.int .i64 v1, .int .i64 v2] 29)).cell? ⟨w.heap.size, 5, none⟩ = some (.int .i64 sd) := blk_cell hB.b1 5
    have a6 : (w4.alloc (.cells #[.int .i64 v1, .int .i64 v2] 29)).cell? ⟨w.heap.size, 6, none⟩ = some (.int .i64 on) := blk_cell hB.b1 6
    have a7 : (w4.alloc (.cells #[.int .i64 v1, .int .i64 v2] 29)).cell? ⟨w.heap.size, 7, none⟩ = some (.int .i64 od) := blk_cell hB.b1 7
    have a8 : (w4.alloc (.cells #[.int .i64 v1, .int .i64 v2] 29)).cell? ⟨w.heap.size, 8, none⟩ = some (.string f8) := blk_cell hB.b1 8
    go_wp2_with fail
    refine (of_calls f0 f1 f2 f3 sn sd on od f8 _).mono ?_
    rintro e w5 ⟨rfl, hb5⟩
    replace hB := hB.step hb5
    replace ky := blk_below ky hb5
    clear hb5
    go_wp2_with fail
    refine (HW.out _).mono ?_
    rintro e w6 ⟨rfl, hb6⟩
    replace hB := hB.step hb6
    replace ky := blk_below ky hb6
    clear hb6 a0 a1 a2 a3 a4 a5 a6 a7 a8
    obtain ⟨p7, hp7⟩ : ∃ p7, p7 = w4.heap.size := ⟨_, rfl⟩
    rw [← hp7] at h8 ky ⊢
    clear hp7
    have kz := blk_new w6 (.cells #[.int .i64 y1, .int .i64 y2] 29)
    have k0 := hB.step (below_alloc (Below.refl _ _) (.cells #[.int .i64 y1, .int .i64 y2] 29))
    replace ky := blk_below ky (below_alloc (Below.refl _ _) (.cells #[.int .i64 y1, .int .i64 y2] 29))
    clear hB
    have hB := k0
    clear k0
    obtain ⟨w7, hw7⟩ : ∃ w7, w7 = w6.alloc (.cells #[.int .i64 y1, .int .i64 y2] 29) := ⟨_, rfl⟩
    have hB7 := hB
    rw [← hw7] at hB7
    by_cases h3 : v3 = 0
    · subst h3
      by_cases h4 : y3 = 0
      · subst h4
        have u0 : (w6.alloc (.cells #[.int .i64 y1, .int .i64 y2] 29)).cell? ⟨p7, 0, none⟩ = some (.int .i64 v1) := blk_cell ky 0
        have u1 : (w6.alloc (.cells #[.int .i64 y1, .int .i64 y2] 29)).cell? ⟨p7, 1, none⟩ = some (.int .i64 v2) := blk_cell ky 1
        have z0 : (w6.alloc (.cells #[.int .i64 y1, .int .i64 y2] 29)).cell? ⟨w6.heap.size, 0, none⟩ = some (.int .i64 y1) := blk_cell kz 0
        have z1 : (w6.alloc (.cells #[.int .i64 y1, .int .i64 y2] 29)).cell? ⟨w6.heap.size, 1, none⟩ = some (.int .i64 y2) := blk_cell kz 1
        go_wp2_with fail
        refine (HL1.out _).mono ?_
        rintro e w8 ⟨rfl, hb8⟩
        replace hB := hB.step hb8
        replace ky := blk_below ky hb8
        replace kz := blk_below kz hb8
        clear hb8 u0 u1 z0 z1 hB7 hw7
        have u0 : w8.cell? ⟨p7, 0, none⟩ = some (.int .i64 v1) := blk_cell ky 0
        have u1 : w8.cell? ⟨p7, 1, none⟩ = some (.int .i64 v2) := blk_cell ky 1
        have z0 : w8.cell? ⟨w6.heap.size, 0, none⟩ = some (.int .i64 y1) := blk_cell kz 0
        have z1 : w8.cell? ⟨w6.heap.size, 1, none⟩ = some (.int .i64 y2) := blk_cell kz 1
        go_wp2_with fail
        refine (HL2.out _).mono ?_
        rintro e w9 ⟨rfl, hb9⟩
        replace hB := hB.step hb9
        replace ky := blk_below ky hb9
        replace kz := blk_below kz hb9
        clear hb9 u0 u1 z0 z1
        have u0 : w9.cell? ⟨p7, 0, none⟩ = some (.int .i64 v1) := blk_cell ky 0
        have u1 : w9.cell? ⟨p7, 1, none⟩ = some (.int .i64 v2) := blk_cell ky 1
        have z0 : w9.cell? ⟨w6.heap.size, 0, none⟩ = some (.int .i64 y1) := blk_cell kz 0
        have z1 : w9.cell? ⟨w6.heap.size, 1, none⟩ = some (.int .i64 y2) := blk_cell kz 1
        have a0 : w9.cell? ⟨w.heap.size, 0, none⟩ = some (.string f0) := blk_cell hB.b1 0
        have a1 : w9.cell? ⟨w.heap.size, 1, none⟩ = some (.int .i64 f1) := blk_cell hB.b1 1
        have a2 : w9.cell? ⟨w.heap.size, 2, none⟩ = some (.string f2) := blk_cell hB.b1 2
        have a3 : w9.cell? ⟨w.heap.size, 3, none⟩ = some (.int .i64 f3) := blk_cell hB.b1 3
        have a4 : w9.cell? ⟨w.heap.size, 4, none⟩ = some (.int .i64 sn) := blk_cell hB.b1 4
        have a5 : w9.cell? ⟨w.heap.size, 5, none⟩ = some (.int .i64 sd) := blk_cell hB.b1 5
        have a6 : w9.cell? ⟨w.heap.size, 6, none⟩ = some (.int .i64 on) := blk_cell hB.b1 6
        have a7 : w9.cell? ⟨w.heap.size, 7, none⟩ = some (.int .i64 od) := blk_cell hB.b1 7
        have a8 : w9.cell? ⟨w.heap.size, 8, none⟩ = some (.string f8) := blk_cell hB.b1 8
        have hord := HO.out (by trivial) (by trivial)
        clear HV HW HL1 HL2 HO
        obtain ⟨o1, o2, o3⟩ := hord
        rcases Int.lt_trichotomy sn 0 with hz | hz | hz
        · obtain ⟨q1, q2⟩ := o2 hz
          have z1 : (sn == 0) = false := by simp; omega
          have z2 : ¬ (sn = 0) := by omega
          have z3 : decide (sn < 0) = true := by simp; omega
          clear o1 o2 o3
          subst q1 q2
          go_wp2_with fail
          go_ret
          exact ⟨by simp, hB.be⟩
        · obtain ⟨q1, q2, q3, q4⟩ := o1 hz
          clear o1 o2 o3
          subst hz q1 q2 q3 q4
          go_wp2_with fail
          go_ret
          exact ⟨by simp, hB.be⟩
        · obtain ⟨q1, q2⟩ := o3 hz
          have z1 : (sn == 0) = false := by simp; omega
          have z2 : ¬ (sn = 0) := by omega
          have z3 : decide (sn < 0) = false := by simp; omega
          have z4 : ¬ (sn < 0) := by omega
          clear o1 o2 o3
          subst q1 q2
          go_wp2_with fail
          go_ret
          exact ⟨by simp, hB.be⟩
      · have e4 : (y3 == 0) = false := by simp [h4]
        go_wp2_with fail
        go_ret
        exact ⟨rfl, hB.be⟩
    · have e3 : (v3 == 0) = false := by simp [h3]
      go_wp2_with fail
      go_ret
      exact ⟨rfl, hB.be⟩
end Go.Proofs.Ytcldlfhnmkogeaa.ScaleOrderWalk

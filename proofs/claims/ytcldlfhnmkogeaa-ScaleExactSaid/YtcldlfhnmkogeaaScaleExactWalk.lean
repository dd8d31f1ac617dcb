import Derived.Test.YtcldlfhnmkogeaaScaleLaw
import Derived.Test.YtcldlfhnmkogeaaScaleExactFacts
import Derived.Test.YtcldlfhnmkogeaaRatRef
/- The law ScaleExact, walked. -/
set_option linter.unusedVariables false
set_option linter.unusedSimpArgs false
namespace Go.Proofs.Ytcldlfhnmkogeaa.ScaleExactWalk
open Go.RowKit Go.Proofs.YtcldlfhnmkogeaaW.PrintWords Go.Proofs.YtcldlfhnmkogeaaW.PrintLast Go.Proofs.Ytcldlfhnmkogeaa.Nats Go.Proofs.Ytcldlfhnmkogeaa.HeapKit Go.Proofs.Ytcldlfhnmkogeaa.RatPlain Go.Proofs.Ytcldlfhnmkogeaa.Scale
/-- The field's box, and those of its scale and its offset. -/
structure E3 (W wx : World) (o1 : Obj) (p5 p6 : Nat) (sn sd on od : Int) : Prop where
  b : B1 W wx o1
  k5 : wx.heap[p5]? = some (.cells #[.int .i64 sn, .int .i64 sd] 23 (0, 0))
  k6 : wx.heap[p6]? = some (.cells #[.int .i64 on, .int .i64 od] 23 (0, 0))
theorem E3.step {W wx w2 : World} {o1 : Obj} {p5 p6 : Nat} {sn sd on od : Int} (h : E3 W wx o1 p5 p6 sn sd on od) (hb : Below wx.heap.size wx w2) : E3 W w2 o1 p5 p6 sn sd on od :=
  ⟨h.b.step hb, blk_below h.k5 hb, blk_below h.k6 hb⟩

set_option maxRecDepth 100000 in
set_option maxHeartbeats 4000000 in
theorem walk (f0 : ByteArray) (f1 : Int) (f2 : ByteArray) (f3 sn sd on od : Int) (f8 : ByteArray) (raw : Int) (hsn : I64 sn) (hsd : I64 sd) (hon : I64 on) (hod : I64 od) (hraw : I64 raw) (w : World) :
    Calls Try.prog 3 #[.agg #[.string f0, .int .i64 f1, .string f2, .int .i64 f3, .int .i64 sn, .int .i64 sd, .int .i64 on, .int .i64 od, .string f8], .int .i64 raw] w fun e w' => e = .returned (.bool true) ∧ Below w.heap.size w w' := by
  have hr1 := fun w => ref_right_calls hsn hsd w
  have hr2 := fun w => ref_right_calls hon hod w
  obtain ⟨r1, e1⟩ : ∃ r1, decide (Rt sn sd) = r1 := ⟨_, rfl⟩
  obtain ⟨r2, e2⟩ : ∃ r2, decide (Rt on od) = r2 := ⟨_, rfl⟩
  simp only [e1] at hr1
  simp only [e2] at hr2
  have HR1 := Lib.hid hr1
  have HR2 := Lib.hid hr2
  have E1 := Lib.hid e1
  have E2 := Lib.hid e2
  clear hr1 hr2 e1 e2
  have hB := b1_start w (.cells #[.string f0, .int .i64 f1, .string f2, .int .i64 f3, .int .i64 sn, .int .i64 sd, .int .i64 on, .int .i64 od, .string f8] 25)
  go_enter Try.func3, Try.ntmps3
  go_wp2_with fail
  refine start_ (n := 8) (S := fun wx => B1 w wx (.cells #[.string f0, .int .i64 f1, .string f2, .int .i64 f3, .int .i64 sn, .int .i64 sd, .int .i64 on, .int .i64 od, .string f8] 25)) (ds := []) #[false, false, false, false, false, false, false, false] (by kernel_rfl) rfl rfl (hB.step (below_drew (Below.refl _ _))) (fun hHeld => ?_)
  refine pure_ (i := 0) (N := some 9) (v := ?_) (a' := ?_) #[true, false, false, false, false, false, false, false] rfl rfl (by kernel_rfl) (fun _ _ _ h => h) (Or.inl ⟨by rfl, ?_⟩) ?_ ?_
  rotate_left
  · intro w'
    go_simp
    try with_reducible rfl
  rotate_left
  · simp only [Act.put, List.setIfInBounds_toArray, List.set_cons_zero, List.set_cons_succ, i64_w, i32_w]
    rfl
  refine take_ (i := 1) (N := some 10) (v := ?_) (a' := ?_) #[true, true, false, false, false, false, false, false] rfl rfl (by kernel_rfl) (fun _ _ _ h => h) (Or.inl ⟨by rfl, ?_⟩) hHeld ?_ ?_
  rotate_left
  · rintro w' hh
    have s0 : w'.cell? ⟨w.heap.size, 0, none⟩ = some (.string f0) := blk_cell hh.b1 0
    have s1 : w'.cell? ⟨w.heap.size, 1, none⟩ = some (.int .i64 f1) := blk_cell hh.b1 1
    have s2 : w'.cell? ⟨w.heap.size, 2, none⟩ = some (.string f2) := blk_cell hh.b1 2
    have s3 : w'.cell? ⟨w.heap.size, 3, none⟩ = some (.int .i64 f3) := blk_cell hh.b1 3
    have s4 : w'.cell? ⟨w.heap.size, 4, none⟩ = some (.int .i64 sn) := blk_cell hh.b1 4
    have s5 : w'.cell? ⟨w.heap.size, 5, none⟩ = some (.int .i64 sd) := blk_cell hh.b1 5
    have s6 : w'.cell? ⟨w.heap.size, 6, none⟩ = some (.int .i64 on) := blk_cell hh.b1 6
    have s7 : w'.cell? ⟨w.heap.size, 7, none⟩ = some (.int .i64 od) := blk_cell hh.b1 7
    have s8 : w'.cell? ⟨w.heap.size, 8, none⟩ = some (.string f8) := blk_cell hh.b1 8
    go_simp
    with_reducible rfl
  rotate_left
  · simp only [Act.put, List.setIfInBounds_toArray, List.set_cons_zero, List.set_cons_succ, i64_w, i32_w]
    rfl
  refine pure_ (i := 2) (N := some 11) (v := ?_) (a' := ?_) #[true, true, true, false, false, false, false, false] rfl rfl (by kernel_rfl) (fun _ _ _ h => h) (Or.inl ⟨by rfl, ?_⟩) ?_ ?_
  rotate_left
  · intro w'
    go_simp
    try with_reducible rfl
  rotate_left
  · simp only [Act.put, List.setIfInBounds_toArray, List.set_cons_zero, List.set_cons_succ, i64_w, i32_w]
    rfl
  refine take_ (i := 3) (N := some 12) (v := ?_) (a' := ?_) #[true, true, true, true, false, false, false, false] rfl rfl (by kernel_rfl) (fun _ _ _ h => h) (Or.inl ⟨by rfl, ?_⟩) hHeld ?_ ?_
  rotate_left
  · rintro w' hh
    have s0 : w'.cell? ⟨w.heap.size, 0, none⟩ = some (.string f0) := blk_cell hh.b1 0
    have s1 : w'.cell? ⟨w.heap.size, 1, none⟩ = some (.int .i64 f1) := blk_cell hh.b1 1
    have s2 : w'.cell? ⟨w.heap.size, 2, none⟩ = some (.string f2) := blk_cell hh.b1 2
    have s3 : w'.cell? ⟨w.heap.size, 3, none⟩ = some (.int .i64 f3) := blk_cell hh.b1 3
    have s4 : w'.cell? ⟨w.heap.size, 4, none⟩ = some (.int .i64 sn) := blk_cell hh.b1 4
    have s5 : w'.cell? ⟨w.heap.size, 5, none⟩ = some (.int .i64 sd) := blk_cell hh.b1 5
    have s6 : w'.cell? ⟨w.heap.size, 6, none⟩ = some (.int .i64 on) := blk_cell hh.b1 6
    have s7 : w'.cell? ⟨w.heap.size, 7, none⟩ = some (.int .i64 od) := blk_cell hh.b1 7
    have s8 : w'.cell? ⟨w.heap.size, 8, none⟩ = some (.string f8) := blk_cell hh.b1 8
    go_simp
    with_reducible rfl
  rotate_left
  · simp only [Act.put, List.setIfInBounds_toArray, List.set_cons_zero, List.set_cons_succ, i64_w, i32_w]
    rfl
  refine join_ (σ := Nat × Nat) 2 #[true, true, true, true, true, true, false, false] (fun s => [(5, .pointer (some ⟨s.1, 0, none⟩)), (6, .pointer (some ⟨s.2, 0, none⟩))]) (fun s wx => (B1 w wx (.cells #[.string f0, .int .i64 f1, .string f2, .int .i64 f3, .int .i64 sn, .int .i64 sd, .int .i64 on, .int .i64 od, .string f8] 25)) ∧ wx.heap[s.1]? = some (.cells #[.int .i64 0, .int .i64 0] 23 (0, 0)) ∧ w.heap.size + 1 ≤ s.1 ∧ wx.heap[s.2]? = some (.cells #[.int .i64 0, .int .i64 0] 23 (0, 0)) ∧ w.heap.size + 1 ≤ s.2 ∧ s.1 ≠ s.2 ∧ True) ?_ ?hall
  case hall =>
    intro hj_4_5
    refine join_ (σ := Nat × Nat) 3 #[true, true, true, true, true, false, false, false] (fun s => [(5, .pointer (some ⟨s.1, 0, none⟩))]) (fun s wx => (B1 w wx (.cells #[.string f0, .int .i64 f1, .string f2, .int .i64 f3, .int .i64 sn, .int .i64 sd, .int .i64 on, .int .i64 od, .string f8] 25)) ∧ wx.heap[s.1]? = some (.cells #[.int .i64 0, .int .i64 0] 23 (0, 0)) ∧ w.heap.size + 1 ≤ s.1 ∧ True) ?c_4 ?_
    case c_4 =>
      rintro ⟨p4, p5⟩ wN hF
      obtain ⟨hHeld, hb4, hl4, _⟩ := hF
      replace hb4 : wN.heap[p4]? = some (.cells #[.int .i64 0, .int .i64 0] 23 (0, 0)) := hb4
      replace hl4 : w.heap.size + 1 ≤ p4 := hl4
      refine norm_ (a' := ?_) ?_ ?_
      rotate_left
      · simp only [putAll, Act.put, List.setIfInBounds_toArray, List.set_cons_zero, List.set_cons_succ, i64_w, i32_w]
        rfl
      refine one_ (i := 5) (N := some 6) #[true, true, true, true, true, true, false, false] rfl rfl (by kernel_rfl) (by decide) (fun K hK => ?_)
      refine box_step (by rfl) (N := 6) rfl (cs := #[.int .i64 0, .int .i64 0]) (t := 23) ?_ ?_
      · first
          | (go_simp; done)
          | (go_simp; rfl)
      intro p5 hp_ w_ hbox_ hB_
      have hS_ := (hHeld.step hB_)
      have hz_ := hHeld.size
      have hlt4 := blk_lt hb4
      refine hK.out _ _ hS_ (fun hHeld_ => ?_)
      clear hK K
      exact norm_ (by rfl) (hj_4_5 (p4, p5) w_ ⟨hS_, blk_below hb4 hB_, hl4, hbox_, by show w.heap.size + 1 ≤ p5; omega, by show p4 ≠ p5; omega, trivial⟩)
    intro hj_4
    refine join_ (σ := Nat × Nat) 3 #[true, true, true, true, false, true, false, false] (fun s => [(6, .pointer (some ⟨s.2, 0, none⟩))]) (fun s wx => (B1 w wx (.cells #[.string f0, .int .i64 f1, .string f2, .int .i64 f3, .int .i64 sn, .int .i64 sd, .int .i64 on, .int .i64 od, .string f8] 25)) ∧ wx.heap[s.2]? = some (.cells #[.int .i64 0, .int .i64 0] 23 (0, 0)) ∧ w.heap.size + 1 ≤ s.2 ∧ True) ?c_5 ?_
    case c_5 =>
      rintro ⟨p4, p5⟩ wN hF
      obtain ⟨hHeld, hb5, hl5, _⟩ := hF
      replace hb5 : wN.heap[p5]? = some (.cells #[.int .i64 0, .int .i64 0] 23 (0, 0)) := hb5
      replace hl5 : w.heap.size + 1 ≤ p5 := hl5
      refine norm_ (a' := ?_) ?_ ?_
      rotate_left
      · simp only [putAll, Act.put, List.setIfInBounds_toArray, List.set_cons_zero, List.set_cons_succ, i64_w, i32_w]
        rfl
      refine one_ (i := 4) (N := some 5) #[true, true, true, true, true, true, false, false] rfl rfl (by kernel_rfl) (by decide) (fun K hK => ?_)
      refine box_step (by rfl) (N := 5) rfl (cs := #[.int .i64 0, .int .i64 0]) (t := 23) ?_ ?_
      · first
          | (go_simp; done)
          | (go_simp; rfl)
      intro p4 hp_ w_ hbox_ hB_
      have hS_ := (hHeld.step hB_)
      have hz_ := hHeld.size
      have hlt5 := blk_lt hb5
      refine hK.out _ _ hS_ (fun hHeld_ => ?_)
      clear hK K
      exact norm_ (by rfl) (hj_4_5 (p4, p5) w_ ⟨hS_, hbox_, by show w.heap.size + 1 ≤ p4; omega, blk_below hb5 hB_, hl5, by show p4 ≠ p5; omega, trivial⟩)
    intro hj_5
    refine two_ (i := 4) (j := 5) (Ni := some 5) (Nj := some 6) #[true, true, true, true, true, false, false, false] #[true, true, true, true, false, true, false, false] rfl rfl rfl rfl (by kernel_rfl) (by decide) (by decide) (fun K hK => ?_) (fun K hK => ?_)
    · refine box_step (by rfl) (N := 5) rfl (cs := #[.int .i64 0, .int .i64 0]) (t := 23) ?_ ?_
      · first
          | (go_simp; done)
          | (go_simp; rfl)
      intro p4 hp_ w_ hbox_ hB_
      have hS_ := (hHeld.step hB_)
      have hz_ := hHeld.size
      refine hK.out _ _ hS_ (fun hHeld_ => ?_)
      clear hK K
      exact norm_ (by rfl) (hj_4 (p4, 0) w_ ⟨hS_, hbox_, by show w.heap.size + 1 ≤ p4; omega, trivial⟩)
    · refine box_step (by rfl) (N := 6) rfl (cs := #[.int .i64 0, .int .i64 0]) (t := 23) ?_ ?_
      · first
          | (go_simp; done)
          | (go_simp; rfl)
      intro p5 hp_ w_ hbox_ hB_
      have hS_ := (hHeld.step hB_)
      have hz_ := hHeld.size
      refine hK.out _ _ hS_ (fun hHeld_ => ?_)
      clear hK K
      exact norm_ (by rfl) (hj_5 (0, p5) w_ ⟨hS_, hbox_, by show w.heap.size + 1 ≤ p5; omega, trivial⟩)
  clear hHeld
  rintro ⟨p4, p5⟩ wN hF
  obtain ⟨hHeld, hb4, hl4, hb5, hl5, hn4_5, _⟩ := hF
  replace hb4 : wN.heap[p4]? = some (.cells #[.int .i64 0, .int .i64 0] 23 (0, 0)) := hb4
  replace hl4 : w.heap.size + 1 ≤ p4 := hl4
  replace hb5 : wN.heap[p5]? = some (.cells #[.int .i64 0, .int .i64 0] 23 (0, 0)) := hb5
  replace hl5 : w.heap.size + 1 ≤ p5 := hl5
  replace hn4_5 : p4 ≠ p5 := hn4_5
  refine norm_ (a' := ?_) ?_ ?_
  rotate_left
  · simp only [putAll, Act.put, List.setIfInBounds_toArray, List.set_cons_zero, List.set_cons_succ, i64_w, i32_w]
    rfl
  have hn5_4 := Ne.symm hn4_5
  have c0 : wN.cell? ⟨p4, 0, none⟩ = some (.int .i64 0) := blk_cell hb4 0
  have cf0 : wN.frozen? ⟨p4, 0, none⟩ = false := blk_frozen hb4 0
  have c1 : wN.cell? ⟨p4, 1, none⟩ = some (.int .i64 0) := blk_cell hb4 1
  have cf1 : wN.frozen? ⟨p4, 1, none⟩ = false := blk_frozen hb4 1
  have d0 : wN.cell? ⟨p5, 0, none⟩ = some (.int .i64 0) := blk_cell hb5 0
  have df0 : wN.frozen? ⟨p5, 0, none⟩ = false := blk_frozen hb5 0
  have d1 : wN.cell? ⟨p5, 1, none⟩ = some (.int .i64 0) := blk_cell hb5 1
  have df1 : wN.frozen? ⟨p5, 1, none⟩ = false := blk_frozen hb5 1
  refine one_ (i := 6) (N := none) #[true, true, true, true, true, true, true, false] rfl rfl (by kernel_rfl) (by decide) (fun K hK => ?_)
  refine skip_ (w1 := (wN.setCell ⟨p4, 0, none⟩ (.int .i64 sn)).setCell ⟨p4, 1, none⟩ (.int .i64 sd)) (by rfl) rfl ?_ ?_
  · first
    | (go_simp; done)
    | (go_simp; rfl)
  refine hK.out _ _ ((hHeld.far (p := ⟨p4, 0, none⟩) hl4 (.int .i64 sn)).far (p := ⟨p4, 1, none⟩) hl4 (.int .i64 sd)) (fun hHeld => ?_)
  clear hK K
  refine norm_ (a' := ?_) ?_ ?_
  rotate_left
  · rfl
  refine one_ (i := 7) (N := none) #[true, true, true, true, true, true, true, true] rfl rfl (by kernel_rfl) (by decide) (fun K hK => ?_)
  refine skip_ (w1 := (((wN.setCell ⟨p4, 0, none⟩ (.int .i64 sn)).setCell ⟨p4, 1, none⟩ (.int .i64 sd)).setCell ⟨p5, 0, none⟩ (.int .i64 on)).setCell ⟨p5, 1, none⟩ (.int .i64 od)) (by rfl) rfl ?_ ?_
  · first
    | (go_simp; done)
    | (go_simp; rfl)
  refine hK.out _ _ ((hHeld.far (p := ⟨p5, 0, none⟩) hl5 (.int .i64 on)).far (p := ⟨p5, 1, none⟩) hl5 (.int .i64 od)) (fun hHeld => ?_)
  clear hK K
  refine norm_ (a' := ?_) ?_ ?_
  rotate_left
  · rfl
  refine done_ (by kernel_rfl) ?_
  have kx := blk_far (blk_far (blk_set (blk_set hb4 0 (.int .i64 sn)) 1 (.int .i64 sd)) (p := ⟨p5, 0, none⟩) hn4_5 (.int .i64 on)) (p := ⟨p5, 1, none⟩) hn4_5 (.int .i64 od)
  have ky := blk_set (blk_set (blk_far (blk_far hb5 (p := ⟨p4, 0, none⟩) hn5_4 (.int .i64 sn)) (p := ⟨p4, 1, none⟩) hn5_4 (.int .i64 sd)) 0 (.int .i64 on)) 1 (.int .i64 od)
  clear hB
  obtain ⟨w0, hw0⟩ : ∃ w0, w0 = (((wN.setCell ⟨p4, 0, none⟩ (.int .i64 sn)).setCell ⟨p4, 1, none⟩ (.int .i64 sd)).setCell ⟨p5, 0, none⟩ (.int .i64 on)).setCell ⟨p5, 1, none⟩ (.int .i64 od) := ⟨_, rfl⟩
  rw [← hw0] at kx ky hHeld ⊢
  have hE : E3 w w0 (.cells #[.string f0, .int .i64 f1, .string f2, .int .i64 f3, .int .i64 sn, .int .i64 sd, .int .i64 on, .int .i64 od, .string f8] 25) p4 p5 sn sd on od := ⟨hHeld, kx, ky⟩
  clear hHeld hw0 hb4 hb5 c0 c1 cf0 cf1 d0 d1 df0 df1 hn4_5 hn5_4 hl4 hl5 kx ky
  go_wp2_with fail
  refine (awake_calls _).mono ?_
  rintro e w1 ⟨rfl, hb1⟩
  replace hE := hE.step hb1
  clear hb1
  have a0 : w1.cell? ⟨w.heap.size, 0, none⟩ = some (.string f0) := blk_cell hE.b.b1 0
  have a1 : w1.cell? ⟨w.heap.size, 1, none⟩ = some (.int .i64 f1) := blk_cell hE.b.b1 1
  have a2 : w1.cell? ⟨w.heap.size, 2, none⟩ = some (.string f2) := blk_cell hE.b.b1 2
  have a3 : w1.cell? ⟨w.heap.size, 3, none⟩ = some (.int .i64 f3) := blk_cell hE.b.b1 3
  have a4 : w1.cell? ⟨w.heap.size, 4, none⟩ = some (.int .i64 sn) := blk_cell hE.b.b1 4
  have a5 : w1.cell? ⟨w.heap.size, 5, none⟩ = some (.int .i64 sd) := blk_cell hE.b.b1 5
  have a6 : w1.cell? ⟨w.heap.size, 6, none⟩ = some (.int .i64 on) := blk_cell hE.b.b1 6
  have a7 : w1.cell? ⟨w.heap.size, 7, none⟩ = some (.int .i64 od) := blk_cell hE.b.b1 7
  have a8 : w1.cell? ⟨w.heap.size, 8, none⟩ = some (.string f8) := blk_cell hE.b.b1 8
  have c0 : w1.cell? ⟨p4, 0, none⟩ = some (.int .i64 sn) := blk_cell hE.k5 0
  have c1 : w1.cell? ⟨p4, 1, none⟩ = some (.int .i64 sd) := blk_cell hE.k5 1
  have d0 : w1.cell? ⟨p5, 0, none⟩ = some (.int .i64 on) := blk_cell hE.k6 0
  have d1 : w1.cell? ⟨p5, 1, none⟩ = some (.int .i64 od) := blk_cell hE.k6 1
  go_wp2_with fail
  refine (few_calls f0 f1 f2 f3 sn sd on od f8 _).mono ?_
  rintro e w2 ⟨he, hb2⟩
  replace hE := hE.step hb2
  clear hb2
  clear a0 a1 a2 a3 a4 a5 a6 a7 a8 c0 c1 d0 d1
  rcases he with rfl | rfl
  · go_wp2_with fail
    refine (awake_calls _).mono ?_
    rintro e w9 ⟨rfl, hb9⟩
    replace hE := hE.step hb9
    go_wp2_with fail
    go_ret
    exact ⟨rfl, hE.b.be⟩
  · skip
    have a0 : w2.cell? ⟨w.heap.size, 0, none⟩ = some (.string f0) := blk_cell hE.b.b1 0
    have a1 : w2.cell? ⟨w.heap.size, 1, none⟩ = some (.int .i64 f1) := blk_cell hE.b.b1 1
    have a2 : w2.cell? ⟨w.heap.size, 2, none⟩ = some (.string f2) := blk_cell hE.b.b1 2
    have a3 : w2.cell? ⟨w.heap.size, 3, none⟩ = some (.int .i64 f3) := blk_cell hE.b.b1 3
    have a4 : w2.cell? ⟨w.heap.size, 4, none⟩ = some (.int .i64 sn) := blk_cell hE.b.b1 4
    have a5 : w2.cell? ⟨w.heap.size, 5, none⟩ = some (.int .i64 sd) := blk_cell hE.b.b1 5
    have a6 : w2.cell? ⟨w.heap.size, 6, none⟩ = some (.int .i64 on) := blk_cell hE.b.b1 6
    have a7 : w2.cell? ⟨w.heap.size, 7, none⟩ = some (.int .i64 od) := blk_cell hE.b.b1 7
    have a8 : w2.cell? ⟨w.heap.size, 8, none⟩ = some (.string f8) := blk_cell hE.b.b1 8
    have c0 : w2.cell? ⟨p4, 0, none⟩ = some (.int .i64 sn) := blk_cell hE.k5 0
    have c1 : w2.cell? ⟨p4, 1, none⟩ = some (.int .i64 sd) := blk_cell hE.k5 1
    have d0 : w2.cell? ⟨p5, 0, none⟩ = some (.int .i64 on) := blk_cell hE.k6 0
    have d1 : w2.cell? ⟨p5, 1, none⟩ = some (.int .i64 od) := blk_cell hE.k6 1
    go_wp2_with fail
    refine (HR1.out _).mono ?_
    rintro e w3 ⟨rfl, hb3⟩
    replace hE := hE.step hb3
    clear hb3 a0 a1 a2 a3 a4 a5 a6 a7 a8 c0 c1 d0 d1
    cases r1 with
    | false => 
      go_wp2_with fail
      refine (awake_calls _).mono ?_
      rintro e w9 ⟨rfl, hb9⟩
      replace hE := hE.step hb9
      go_wp2_with fail
      go_ret
      exact ⟨rfl, hE.b.be⟩
    | true =>
      have a0 : w3.cell? ⟨w.heap.size, 0, none⟩ = some (.string f0) := blk_cell hE.b.b1 0
      have a1 : w3.cell? ⟨w.heap.size, 1, none⟩ = some (.int .i64 f1) := blk_cell hE.b.b1 1
      have a2 : w3.cell? ⟨w.heap.size, 2, none⟩ = some (.string f2) := blk_cell hE.b.b1 2
      have a3 : w3.cell? ⟨w.heap.size, 3, none⟩ = some (.int .i64 f3) := blk_cell hE.b.b1 3
      have a4 : w3.cell? ⟨w.heap.size, 4, none⟩ = some (.int .i64 sn) := blk_cell hE.b.b1 4
      have a5 : w3.cell? ⟨w.heap.size, 5, none⟩ = some (.int .i64 sd) := blk_cell hE.b.b1 5
      have a6 : w3.cell? ⟨w.heap.size, 6, none⟩ = some (.int .i64 on) := blk_cell hE.b.b1 6
      have a7 : w3.cell? ⟨w.heap.size, 7, none⟩ = some (.int .i64 od) := blk_cell hE.b.b1 7
      have a8 : w3.cell? ⟨w.heap.size, 8, none⟩ = some (.string f8) := blk_cell hE.b.b1 8
      have c0 : w3.cell? ⟨p4, 0, none⟩ = some (.int .i64 sn) := blk_cell hE.k5 0
      have c1 : w3.cell? ⟨p4, 1, none⟩ = some (.int .i64 sd) := blk_cell hE.k5 1
      have d0 : w3.cell? ⟨p5, 0, none⟩ = some (.int .i64 on) := blk_cell hE.k6 0
      have d1 : w3.cell? ⟨p5, 1, none⟩ = some (.int .i64 od) := blk_cell hE.k6 1
      go_wp2_with fail
      refine (HR2.out _).mono ?_
      rintro e w4 ⟨rfl, hb4⟩
      replace hE := hE.step hb4
      clear hb4 a0 a1 a2 a3 a4 a5 a6 a7 a8 c0 c1 d0 d1
      cases r2 with
      | false => 
        go_wp2_with fail
        refine (awake_calls _).mono ?_
        rintro e w9 ⟨rfl, hb9⟩
        replace hE := hE.step hb9
        go_wp2_with fail
        go_ret
        exact ⟨rfl, hE.b.be⟩
      | true =>
        have a0 : w4.cell? ⟨w.heap.size, 0, none⟩ = some (.string f0) := blk_cell hE.b.b1 0
        have a1 : w4.cell? ⟨w.heap.size, 1, none⟩ = some (.int .i64 f1) := blk_cell hE.b.b1 1
        have a2 : w4.cell? ⟨w.heap.size, 2, none⟩ = some (.string f2) := blk_cell hE.b.b1 2
        have a3 : w4.cell? ⟨w.heap.size, 3, none⟩ = some (.int .i64 f3) := blk_cell hE.b.b1 3
        have a4 : w4.cell? ⟨w.heap.size, 4, none⟩ = some (.int .i64 sn) := blk_cell hE.b.b1 4
        have a5 : w4.cell? ⟨w.heap.size, 5, none⟩ = some (.int .i64 sd) := blk_cell hE.b.b1 5
        have a6 : w4.cell? ⟨w.heap.size, 6, none⟩ = some (.int .i64 on) := blk_cell hE.b.b1 6
        have a7 : w4.cell? ⟨w.heap.size, 7, none⟩ = some (.int .i64 od) := blk_cell hE.b.b1 7
        have a8 : w4.cell? ⟨w.heap.size, 8, none⟩ = some (.string f8) := blk_cell hE.b.b1 8
        have c0 : w4.cell? ⟨p4, 0, none⟩ = some (.int .i64 sn) := blk_cell hE.k5 0
        have c1 : w4.cell? ⟨p4, 1, none⟩ = some (.int .i64 sd) := blk_cell hE.k5 1
        have d0 : w4.cell? ⟨p5, 0, none⟩ = some (.int .i64 on) := blk_cell hE.k6 0
        have d1 : w4.cell? ⟨p5, 1, none⟩ = some (.int .i64 od) := blk_cell hE.k6 1
        by_cases q0 : raw < -1000000
        · have t0 : decide (raw < -1000000) = true := decide_eq_true q0
          refine ?_
          go_wp2_with fail
          refine (awake_calls _).mono ?_
          rintro e w9 ⟨rfl, hb9⟩
          replace hE := hE.step hb9
          go_wp2_with fail
          go_ret
          exact ⟨rfl, hE.b.be⟩
        have t0 : decide (raw < -1000000) = false := decide_eq_false q0
        by_cases q1 : raw > 1000000
        · have t1 : decide (raw > 1000000) = true := decide_eq_true q1
          refine ?_
          go_wp2_with fail
          refine (awake_calls _).mono ?_
          rintro e w9 ⟨rfl, hb9⟩
          replace hE := hE.step hb9
          go_wp2_with fail
          go_ret
          exact ⟨rfl, hE.b.be⟩
        have t1 : decide (raw > 1000000) = false := decide_eq_false q1
        by_cases q2 : sn < -1000
        · have t2 : decide (sn < -1000) = true := decide_eq_true q2
          refine ?_
          go_wp2_with fail
          refine (awake_calls _).mono ?_
          rintro e w9 ⟨rfl, hb9⟩
          replace hE := hE.step hb9
          go_wp2_with fail
          go_ret
          exact ⟨rfl, hE.b.be⟩
        have t2 : decide (sn < -1000) = false := decide_eq_false q2
        by_cases q3 : sn > 1000
        · have t3 : decide (sn > 1000) = true := decide_eq_true q3
          refine ?_
          go_wp2_with fail
          refine (awake_calls _).mono ?_
          rintro e w9 ⟨rfl, hb9⟩
          replace hE := hE.step hb9
          go_wp2_with fail
          go_ret
          exact ⟨rfl, hE.b.be⟩
        have t3 : decide (sn > 1000) = false := decide_eq_false q3
        by_cases q4 : sd > 1000
        · have t4 : decide (sd > 1000) = true := decide_eq_true q4
          refine ?_
          go_wp2_with fail
          refine (awake_calls _).mono ?_
          rintro e w9 ⟨rfl, hb9⟩
          replace hE := hE.step hb9
          go_wp2_with fail
          go_ret
          exact ⟨rfl, hE.b.be⟩
        have t4 : decide (sd > 1000) = false := decide_eq_false q4
        by_cases q5 : on < -1000
        · have t5 : decide (on < -1000) = true := decide_eq_true q5
          refine ?_
          go_wp2_with fail
          refine (awake_calls _).mono ?_
          rintro e w9 ⟨rfl, hb9⟩
          replace hE := hE.step hb9
          go_wp2_with fail
          go_ret
          exact ⟨rfl, hE.b.be⟩
        have t5 : decide (on < -1000) = false := decide_eq_false q5
        by_cases q6 : on > 1000
        · have t6 : decide (on > 1000) = true := decide_eq_true q6
          refine ?_
          go_wp2_with fail
          refine (awake_calls _).mono ?_
          rintro e w9 ⟨rfl, hb9⟩
          replace hE := hE.step hb9
          go_wp2_with fail
          go_ret
          exact ⟨rfl, hE.b.be⟩
        have t6 : decide (on > 1000) = false := decide_eq_false q6
        by_cases q7 : od > 1000
        · have t7 : decide (od > 1000) = true := decide_eq_true q7
          refine ?_
          go_wp2_with fail
          refine (awake_calls _).mono ?_
          rintro e w9 ⟨rfl, hb9⟩
          replace hE := hE.step hb9
          go_wp2_with fail
          go_ret
          exact ⟨rfl, hE.b.be⟩
        have t7 : decide (od > 1000) = false := decide_eq_false q7
        have hs : Rt sn sd := of_decide_eq_true E1.out
        have ho : Rt on od := of_decide_eq_true E2.out
        have z1 := hs.1
        have z2 := ho.1
        obtain ⟨v1, v2, hv, bv1, bv2, pv, heq⟩ := exact_small (raw := raw) hs ho (by unfold Bd; omega) (by unfold Bd; omega) (by unfold Bd; omega) (by unfold Bd; omega) (by unfold Bd; omega)
        have hc := fun w => value_calls f0 f1 f2 f3 sn sd on od f8 raw hsn hsd hon hod hraw w
        simp only [hv, ans] at hc
        have HC := Lib.hid hc
        have HEQ := Lib.hid heq
        have x1 : Bd raw 1000000 := by unfold Bd; omega
        have x2 : Bd sn 1000 := by unfold Bd; omega
        have x3 : Bd sd 1000 := by unfold Bd; omega
        have x4 : Bd on 1000 := by unfold Bd; omega
        have x5 : Bd od 1000 := by unfold Bd; omega
        have g1 := wrap_in ((x3.mul x5).fits (by decide))
        have g2 := wrap_in ((bv1.mul (x3.mul x5)).fits (by decide))
        have g3 := wrap_in ((x1.mul x2).fits (by decide))
        have g4 := wrap_in (((x1.mul x2).mul x5).fits (by decide))
        have g5 := wrap_in ((x4.mul x3).fits (by decide))
        have g6 := wrap_in ((((x1.mul x2).mul x5).add (x4.mul x3)).fits (by decide))
        have g7 := wrap_in (((((x1.mul x2).mul x5).add (x4.mul x3)).mul bv2).fits (by decide))
        rw [← i64_w] at g1 g2 g3 g4 g5 g6 g7
        have p1 : decide (v2 > 0) = true := by simp; omega
        clear hc heq hv hs ho z1 z2 x1 x2 x3 x4 x5 bv1 bv2 E1 E2 HR1 HR2
        go_wp2_with fail
        refine (of_calls f0 f1 f2 f3 sn sd on od f8 _).mono ?_
        rintro e w5 ⟨rfl, hb5⟩
        replace hE := hE.step hb5
        clear hb5
        go_wp2_with fail
        refine (HC.out _).mono ?_
        rintro e w6 ⟨rfl, hb6⟩
        replace hE := hE.step hb6
        clear hb6 a0 a1 a2 a3 a4 a5 a6 a7 a8 c0 c1 d0 d1
        have kz := blk_new w6 (.cells #[.int .i64 v1, .int .i64 v2] 29)
        replace hE := hE.step (below_alloc (Below.refl _ _) (.cells #[.int .i64 v1, .int .i64 v2] 29))
        have a0 : (w6.alloc (.cells #[.int .i64 v1, .int .i64 v2] 29)).cell? ⟨w.heap.size, 0, none⟩ = some (.string f0) := blk_cell hE.b.b1 0
        have a1 : (w6.alloc (.cells #[.int .i64 v1, .int .i64 v2] 29)).cell? ⟨w.heap.size, 1, none⟩ = some (.int .i64 f1) := blk_cell hE.b.b1 1
        have a2 : (w6.alloc (.cells #[.int .i64 v1, .int .i64 v2] 29)).cell? ⟨w.heap.size, 2, none⟩ = some (.string f2) := blk_cell hE.b.b1 2
        have a3 : (w6.alloc (.cells #[.int .i64 v1, .int .i64 v2] 29)).cell? ⟨w.heap.size, 3, none⟩ = some (.int .i64 f3) := blk_cell hE.b.b1 3
        have a4 : (w6.alloc (.cells #[.int .i64 v1, .int .i64 v2] 29)).cell? ⟨w.heap.size, 4, none⟩ = some (.int .i64 sn) := blk_cell hE.b.b1 4
        have a5 : (w6.alloc (.cells #[.int .i64 v1, .int .i64 v2] 29)).cell? ⟨w.heap.size, 5, none⟩ = some (.int .i64 sd) := blk_cell hE.b.b1 5
        have a6 : (w6.alloc (.cells #[.int .i64 v1, .int .i64 v2] 29)).cell? ⟨w.heap.size, 6, none⟩ = some (.int .i64 on) := blk_cell hE.b.b1 6
        have a7 : (w6.alloc (.cells #[.int .i64 v1, .int .i64 v2] 29)).cell? ⟨w.heap.size, 7, none⟩ = some (.int .i64 od) := blk_cell hE.b.b1 7
        have a8 : (w6.alloc (.cells #[.int .i64 v1, .int .i64 v2] 29)).cell? ⟨w.heap.size, 8, none⟩ = some (.string f8) := blk_cell hE.b.b1 8
        have c0 : (w6.alloc (.cells #[.int .i64 v1, .int .i64 v2] 29)).cell? ⟨p4, 0, none⟩ = some (.int .i64 sn) := blk_cell hE.k5 0
        have c1 : (w6.alloc (.cells #[.int .i64 v1, .int .i64 v2] 29)).cell? ⟨p4, 1, none⟩ = some (.int .i64 sd) := blk_cell hE.k5 1
        have d0 : (w6.alloc (.cells #[.int .i64 v1, .int .i64 v2] 29)).cell? ⟨p5, 0, none⟩ = some (.int .i64 on) := blk_cell hE.k6 0
        have d1 : (w6.alloc (.cells #[.int .i64 v1, .int .i64 v2] 29)).cell? ⟨p5, 1, none⟩ = some (.int .i64 od) := blk_cell hE.k6 1
        have z0 : (w6.alloc (.cells #[.int .i64 v1, .int .i64 v2] 29)).cell? ⟨w6.heap.size, 0, none⟩ = some (.int .i64 v1) := blk_cell kz 0
        have z1 : (w6.alloc (.cells #[.int .i64 v1, .int .i64 v2] 29)).cell? ⟨w6.heap.size, 1, none⟩ = some (.int .i64 v2) := blk_cell kz 1
        go_wp2_with fail
        go_ret
        exact ⟨by simp [HEQ.out], hE.b.be⟩
end Go.Proofs.Ytcldlfhnmkogeaa.ScaleExactWalk

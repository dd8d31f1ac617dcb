import Derived.Test.YtcldlfhnmkogeaaScaleInDoc
import Derived.Test.YtcldlfhnmkogeaaScaleLaw
/- The law ScalePlays, walked. -/
set_option linter.unusedVariables false
set_option linter.unusedSimpArgs false
namespace Go.Proofs.Ytcldlfhnmkogeaa.ScalePlaysWalk
open Go.RowKit Go.Proofs.YtcldlfhnmkogeaaW.PrintWords Go.Proofs.YtcldlfhnmkogeaaW.PrintLast Go.Proofs.Ytcldlfhnmkogeaa.Nats Go.Proofs.Ytcldlfhnmkogeaa.HeapKit Go.Proofs.Ytcldlfhnmkogeaa.RatPlain Go.Proofs.Ytcldlfhnmkogeaa.Unit Go.Proofs.Ytcldlfhnmkogeaa.Scale

/-- The boxes. -/
structure Sp (w wx : World) (f0 : ByteArray) (f1 : Int) (f2 : ByteArray) (f3 sn sd on od : Int) (f8 : ByteArray) (p7 p9 p11 p13 : Nat) (v1 v2 x1 x2 : Int) : Prop where
  b : B1 w wx (.cells #[.string f0, .int .i64 f1, .string f2, .int .i64 f3, .int .i64 sn, .int .i64 sd, .int .i64 on, .int .i64 od, .string f8] 25)
  k7 : wx.heap[p7]? = some (.cells #[.int .i64 v1, .int .i64 v2] 29 (0, 0))
  k9 : wx.heap[p9]? = some (.cells #[.int .i64 v1, .int .i64 v2] 23 (0, 0))
  k11 : wx.heap[p11]? = some (.cells #[.int .i64 x1, .int .i64 x2] 29 (0, 0))
  k13 : wx.heap[p13]? = some (.cells #[.int .i64 x1, .int .i64 x2] 23 (0, 0))
theorem Sp.step {w wx w2 : World} {f0 : ByteArray} {f1 : Int} {f2 : ByteArray} {f3 sn sd on od : Int} {f8 : ByteArray} {p7 p9 p11 p13 : Nat} {v1 v2 x1 x2 : Int} (h : Sp w wx f0 f1 f2 f3 sn sd on od f8 p7 p9 p11 p13 v1 v2 x1 x2) (hb : Below wx.heap.size wx w2) : Sp w w2 f0 f1 f2 f3 sn sd on od f8 p7 p9 p11 p13 v1 v2 x1 x2 :=
  ⟨h.b.step hb, blk_below h.k7 hb, blk_below h.k9 hb, blk_below h.k11 hb, blk_below h.k13 hb⟩

set_option maxRecDepth 100000 in
set_option maxHeartbeats 4000000 in
theorem walk (f0 : ByteArray) (f1 : Int) (f2 : ByteArray) (f3 sn sd on od : Int) (f8 : ByteArray) (raw : Int) (tu : ByteArray) (hsn : I64 sn) (hsd : I64 sd) (hon : I64 on) (hod : I64 od) (hraw : I64 raw) (w : World) :
    Calls Try.prog 13 #[.agg #[.string f0, .int .i64 f1, .string f2, .int .i64 f3, .int .i64 sn, .int .i64 sd, .int .i64 on, .int .i64 od, .string f8], .int .i64 raw, .string tu] w fun e w' => e = .returned (.bool true) ∧ Below w.heap.size w w' := by
  have c1 := fun w => value_calls f0 f1 f2 f3 sn sd on od f8 raw hsn hsd hon hod hraw w
  have c2 := fun w => refvalue_calls f0 f1 f2 f3 sn sd on od f8 raw hsn hsd hon hod hraw w
  have c3 := fun w => in_calls f0 f1 f2 f3 sn sd on od f8 raw tu hsn hsd hon hod hraw w
  have c4 := fun w => refin_calls f0 f1 f2 f3 sn sd on od f8 raw tu hsn hsd hon hod hraw w
  obtain ⟨⟨v1, v2, v3⟩, h1⟩ : ∃ r, valueR sn sd on od raw = r := ⟨_, rfl⟩
  obtain ⟨⟨x1, x2, x3⟩, h2⟩ : ∃ r, inR sn sd on od raw f8 tu = r := ⟨_, rfl⟩
  simp only [h1, ans] at c1 c2
  simp only [h2, ans] at c3 c4
  have C1 := Lib.hid c1
  have C2 := Lib.hid c2
  have C3 := Lib.hid c3
  have C4 := Lib.hid c4
  clear c1 c2 c3 c4 h1 h2
  go_enter Try.func13, Try.ntmps13
  go_wp2_with fail
  refine (Scale.awake_calls _).mono ?_
  rintro e w1 ⟨rfl, hb1⟩
  have hB := (b1_start w (.cells #[.string f0, .int .i64 f1, .string f2, .int .i64 f3, .int .i64 sn, .int .i64 sd, .int .i64 on, .int .i64 od, .string f8] 25)).step hb1
  clear hb1
  have a0 : w1.cell? ⟨w.heap.size, 0, none⟩ = some (.string f0) := blk_cell hB.b1 0
  have a1 : w1.cell? ⟨w.heap.size, 1, none⟩ = some (.int .i64 f1) := blk_cell hB.b1 1
  have a2 : w1.cell? ⟨w.heap.size, 2, none⟩ = some (.string f2) := blk_cell hB.b1 2
  have a3 : w1.cell? ⟨w.heap.size, 3, none⟩ = some (.int .i64 f3) := blk_cell hB.b1 3
  have a4 : w1.cell? ⟨w.heap.size, 4, none⟩ = some (.int .i64 sn) := blk_cell hB.b1 4
  have a5 : w1.cell? ⟨w.heap.size, 5, none⟩ = some (.int .i64 sd) := blk_cell hB.b1 5
  have a6 : w1.cell? ⟨w.heap.size, 6, none⟩ = some (.int .i64 on) := blk_cell hB.b1 6
  have a7 : w1.cell? ⟨w.heap.size, 7, none⟩ = some (.int .i64 od) := blk_cell hB.b1 7
  have a8 : w1.cell? ⟨w.heap.size, 8, none⟩ = some (.string f8) := blk_cell hB.b1 8
  go_wp2_with fail
  refine (few_calls f0 f1 f2 f3 sn sd on od f8 _).mono ?_
  rintro e w2 ⟨he, hb2⟩
  replace hB := hB.step hb2
  clear hb2 a0 a1 a2 a3 a4 a5 a6 a7 a8
  rcases he with rfl | rfl
  · go_wp2_with fail
    refine (Scale.awake_calls _).mono ?_
    rintro e w9 ⟨rfl, hb9⟩
    replace hB := hB.step hb9
    go_wp2_with fail
    go_ret
    exact ⟨rfl, hB.be⟩
  by_cases q1 : ((tu.size : Nat) : Int) > 50
  · have t1 : decide (((tu.size : Nat) : Int) > 50) = true := decide_eq_true q1
    go_wp2_with fail
    refine (Scale.awake_calls _).mono ?_
    rintro e w9 ⟨rfl, hb9⟩
    replace hB := hB.step hb9
    go_wp2_with fail
    go_ret
    exact ⟨rfl, hB.be⟩
  have t1 : decide (((tu.size : Nat) : Int) > 50) = false := decide_eq_false q1
  have a0 : w2.cell? ⟨w.heap.size, 0, none⟩ = some (.string f0) := blk_cell hB.b1 0
  have a1 : w2.cell? ⟨w.heap.size, 1, none⟩ = some (.int .i64 f1) := blk_cell hB.b1 1
  have a2 : w2.cell? ⟨w.heap.size, 2, none⟩ = some (.string f2) := blk_cell hB.b1 2
  have a3 : w2.cell? ⟨w.heap.size, 3, none⟩ = some (.int .i64 f3) := blk_cell hB.b1 3
  have a4 : w2.cell? ⟨w.heap.size, 4, none⟩ = some (.int .i64 sn) := blk_cell hB.b1 4
  have a5 : w2.cell? ⟨w.heap.size, 5, none⟩ = some (.int .i64 sd) := blk_cell hB.b1 5
  have a6 : w2.cell? ⟨w.heap.size, 6, none⟩ = some (.int .i64 on) := blk_cell hB.b1 6
  have a7 : w2.cell? ⟨w.heap.size, 7, none⟩ = some (.int .i64 od) := blk_cell hB.b1 7
  have a8 : w2.cell? ⟨w.heap.size, 8, none⟩ = some (.string f8) := blk_cell hB.b1 8
  go_wp2_with fail
  clear a0 a1 a2 a3 a4 a5 a6 a7 a8
  refine (of_calls f0 f1 f2 f3 sn sd on od f8 _).mono ?_
  rintro e w3 ⟨rfl, hb_⟩
  replace hB := hB.step hb_
  clear hb_
  go_wp2_with fail
  clear t1 q1
  refine (C1.out _).mono ?_
  rintro e w4 ⟨rfl, hb_⟩
  replace hB := (hB.step hb_).step (below_alloc (Below.refl _ _) (.cells #[.int .i64 v1, .int .i64 v2] 29))
  have k7 := blk_new w4 (.cells #[.int .i64 v1, .int .i64 v2] 29)
  clear hb_
  have a0 : (w4.alloc (.cells #[.int .i64 v1, .int .i64 v2] 29)).cell? ⟨w.heap.size, 0, none⟩ = some (.string f0) := blk_cell hB.b1 0
  have a1 : (w4.alloc (.cells #[.int .i64 v1, .int .i64 v2] 29)).cell? ⟨w.heap.size, 1, none⟩ = some (.int .i64 f1) := blk_cell hB.b1 1
  have a2 : (w4.alloc (.cells #[.int .i64 v1, .int .i64 v2] 29)).cell? ⟨w.heap.size, 2, none⟩ = some (.string f2) := blk_cell hB.b1 2
  have a3 : (w4.alloc (.cells #[.int .i64 v1, .int .i64 v2] 29)).cell? ⟨w.heap.size, 3, none⟩ = some (.int .i64 f3) := blk_cell hB.b1 3
  have a4 : (w4.alloc (.cells #[.int .i64 v1, .int .i64 v2] 29)).cell? ⟨w.heap.size, 4, none⟩ = some (.int .i64 sn) := blk_cell hB.b1 4
  have a5 : (w4.alloc (.cells #[.int .i64 v1, .int .i64 v2] 29)).cell? ⟨w.heap.size, 5, none⟩ = some (.int .i64 sd) := blk_cell hB.b1 5
  have a6 : (w4.alloc (.cells #[.int .i64 v1, .int .i64 v2] 29)).cell? ⟨w.heap.size, 6, none⟩ = some (.int .i64 on) := blk_cell hB.b1 6
  have a7 : (w4.alloc (.cells #[.int .i64 v1, .int .i64 v2] 29)).cell? ⟨w.heap.size, 7, none⟩ = some (.int .i64 od) := blk_cell hB.b1 7
  have a8 : (w4.alloc (.cells #[.int .i64 v1, .int .i64 v2] 29)).cell? ⟨w.heap.size, 8, none⟩ = some (.string f8) := blk_cell hB.b1 8
  go_wp2_with fail
  clear a0 a1 a2 a3 a4 a5 a6 a7 a8
  refine (C2.out _).mono ?_
  rintro e w5 ⟨rfl, hb_⟩
  replace k7 := blk_below k7 hb_
  replace hB := (hB.step hb_).step (below_alloc (Below.refl _ _) (.cells #[.int .i64 v1, .int .i64 v2] 23))
  replace k7 := blk_alloc k7 (.cells #[.int .i64 v1, .int .i64 v2] 23)
  have k9 := blk_new w5 (.cells #[.int .i64 v1, .int .i64 v2] 23)
  clear hb_
  have a0 : (w5.alloc (.cells #[.int .i64 v1, .int .i64 v2] 23)).cell? ⟨w.heap.size, 0, none⟩ = some (.string f0) := blk_cell hB.b1 0
  have a1 : (w5.alloc (.cells #[.int .i64 v1, .int .i64 v2] 23)).cell? ⟨w.heap.size, 1, none⟩ = some (.int .i64 f1) := blk_cell hB.b1 1
  have a2 : (w5.alloc (.cells #[.int .i64 v1, .int .i64 v2] 23)).cell? ⟨w.heap.size, 2, none⟩ = some (.string f2) := blk_cell hB.b1 2
  have a3 : (w5.alloc (.cells #[.int .i64 v1, .int .i64 v2] 23)).cell? ⟨w.heap.size, 3, none⟩ = some (.int .i64 f3) := blk_cell hB.b1 3
  have a4 : (w5.alloc (.cells #[.int .i64 v1, .int .i64 v2] 23)).cell? ⟨w.heap.size, 4, none⟩ = some (.int .i64 sn) := blk_cell hB.b1 4
  have a5 : (w5.alloc (.cells #[.int .i64 v1, .int .i64 v2] 23)).cell? ⟨w.heap.size, 5, none⟩ = some (.int .i64 sd) := blk_cell hB.b1 5
  have a6 : (w5.alloc (.cells #[.int .i64 v1, .int .i64 v2] 23)).cell? ⟨w.heap.size, 6, none⟩ = some (.int .i64 on) := blk_cell hB.b1 6
  have a7 : (w5.alloc (.cells #[.int .i64 v1, .int .i64 v2] 23)).cell? ⟨w.heap.size, 7, none⟩ = some (.int .i64 od) := blk_cell hB.b1 7
  have a8 : (w5.alloc (.cells #[.int .i64 v1, .int .i64 v2] 23)).cell? ⟨w.heap.size, 8, none⟩ = some (.string f8) := blk_cell hB.b1 8
  go_wp2_with fail
  clear a0 a1 a2 a3 a4 a5 a6 a7 a8
  refine (of_calls f0 f1 f2 f3 sn sd on od f8 _).mono ?_
  rintro e w6 ⟨rfl, hb_⟩
  replace hB := hB.step hb_
  replace k7 := blk_below k7 hb_
  replace k9 := blk_below k9 hb_
  clear hb_
  go_wp2_with fail
  refine (C3.out _).mono ?_
  rintro e w7 ⟨rfl, hb_⟩
  replace k7 := blk_below k7 hb_
  replace k9 := blk_below k9 hb_
  replace hB := (hB.step hb_).step (below_alloc (Below.refl _ _) (.cells #[.int .i64 x1, .int .i64 x2] 29))
  replace k7 := blk_alloc k7 (.cells #[.int .i64 x1, .int .i64 x2] 29)
  replace k9 := blk_alloc k9 (.cells #[.int .i64 x1, .int .i64 x2] 29)
  have k11 := blk_new w7 (.cells #[.int .i64 x1, .int .i64 x2] 29)
  clear hb_
  have a0 : (w7.alloc (.cells #[.int .i64 x1, .int .i64 x2] 29)).cell? ⟨w.heap.size, 0, none⟩ = some (.string f0) := blk_cell hB.b1 0
  have a1 : (w7.alloc (.cells #[.int .i64 x1, .int .i64 x2] 29)).cell? ⟨w.heap.size, 1, none⟩ = some (.int .i64 f1) := blk_cell hB.b1 1
  have a2 : (w7.alloc (.cells #[.int .i64 x1, .int .i64 x2] 29)).cell? ⟨w.heap.size, 2, none⟩ = some (.string f2) := blk_cell hB.b1 2
  have a3 : (w7.alloc (.cells #[.int .i64 x1, .int .i64 x2] 29)).cell? ⟨w.heap.size, 3, none⟩ = some (.int .i64 f3) := blk_cell hB.b1 3
  have a4 : (w7.alloc (.cells #[.int .i64 x1, .int .i64 x2] 29)).cell? ⟨w.heap.size, 4, none⟩ = some (.int .i64 sn) := blk_cell hB.b1 4
  have a5 : (w7.alloc (.cells #[.int .i64 x1, .int .i64 x2] 29)).cell? ⟨w.heap.size, 5, none⟩ = some (.int .i64 sd) := blk_cell hB.b1 5
  have a6 : (w7.alloc (.cells #[.int .i64 x1, .int .i64 x2] 29)).cell? ⟨w.heap.size, 6, none⟩ = some (.int .i64 on) := blk_cell hB.b1 6
  have a7 : (w7.alloc (.cells #[.int .i64 x1, .int .i64 x2] 29)).cell? ⟨w.heap.size, 7, none⟩ = some (.int .i64 od) := blk_cell hB.b1 7
  have a8 : (w7.alloc (.cells #[.int .i64 x1, .int .i64 x2] 29)).cell? ⟨w.heap.size, 8, none⟩ = some (.string f8) := blk_cell hB.b1 8
  go_wp2_with fail
  clear a0 a1 a2 a3 a4 a5 a6 a7 a8
  refine (C4.out _).mono ?_
  rintro e w8 ⟨rfl, hb_⟩
  replace k7 := blk_below k7 hb_
  replace k9 := blk_below k9 hb_
  replace k11 := blk_below k11 hb_
  replace hB := (hB.step hb_).step (below_alloc (Below.refl _ _) (.cells #[.int .i64 x1, .int .i64 x2] 23))
  replace k7 := blk_alloc k7 (.cells #[.int .i64 x1, .int .i64 x2] 23)
  replace k9 := blk_alloc k9 (.cells #[.int .i64 x1, .int .i64 x2] 23)
  replace k11 := blk_alloc k11 (.cells #[.int .i64 x1, .int .i64 x2] 23)
  have k13 := blk_new w8 (.cells #[.int .i64 x1, .int .i64 x2] 23)
  clear hb_
  have hS : Sp w (w8.alloc (.cells #[.int .i64 x1, .int .i64 x2] 23)) f0 f1 f2 f3 sn sd on od f8 w4.heap.size w5.heap.size w7.heap.size w8.heap.size v1 v2 x1 x2 := ⟨hB, k7, k9, k11, k13⟩
  clear hB k7 k9 k11 k13
  go_wp2_with fail
  obtain ⟨p7, hp7⟩ : ∃ p, p = w4.heap.size := ⟨_, rfl⟩
  obtain ⟨p9, hp9⟩ : ∃ p, p = w5.heap.size := ⟨_, rfl⟩
  obtain ⟨p11, hp11⟩ : ∃ p, p = w7.heap.size := ⟨_, rfl⟩
  obtain ⟨p13, hp13⟩ : ∃ p, p = w8.heap.size := ⟨_, rfl⟩
  obtain ⟨W, hW⟩ : ∃ W, W = w8.alloc (.cells #[.int .i64 x1, .int .i64 x2] 23) := ⟨_, rfl⟩
  rw [← hp7, ← hp9, ← hp11, ← hp13, ← hW] at hS
  rw [← hp7, ← hp9, ← hp11, ← hp13, ← hW]
  clear hp7 hp9 hp11 hp13 hW
  refine start_ (n := 21) (S := fun wx => Sp w wx f0 f1 f2 f3 sn sd on od f8 p7 p9 p11 p13 v1 v2 x1 x2) (ds := []) #[false, false, false, false, false, false, false, false, false, false, false, false, false, false, false, false, false, false, false, false, false] (by kernel_rfl) rfl rfl (hS.step (below_drew (Below.refl _ _))) (fun hHeld => ?_)
  refine pure_ (i := 0) (N := some 56) (v := ?_) (a' := ?_) #[true, false, false, false, false, false, false, false, false, false, false, false, false, false, false, false, false, false, false, false, false] rfl rfl (by kernel_rfl) (fun _ _ _ h => h) (Or.inl ⟨by rfl, ?_⟩) ?_ ?_
  rotate_left
  · intro w'
    go_simp
    try with_reducible rfl
  rotate_left
  · simp only [Act.put, List.setIfInBounds_toArray, List.set_cons_zero, List.set_cons_succ, i64_w, i32_w]
    rfl
  refine pure_ (i := 1) (N := some 57) (v := ?_) (a' := ?_) #[true, true, false, false, false, false, false, false, false, false, false, false, false, false, false, false, false, false, false, false, false] rfl rfl (by kernel_rfl) (fun _ _ _ h => h) (Or.inl ⟨by rfl, ?_⟩) ?_ ?_
  rotate_left
  · intro w'
    go_simp
    try with_reducible rfl
  rotate_left
  · simp only [Act.put, List.setIfInBounds_toArray, List.set_cons_zero, List.set_cons_succ, i64_w, i32_w]
    rfl
  refine pure_ (i := 2) (N := some 58) (v := ?_) (a' := ?_) #[true, true, true, false, false, false, false, false, false, false, false, false, false, false, false, false, false, false, false, false, false] rfl rfl (by kernel_rfl) (fun _ _ _ h => h) (Or.inl ⟨by rfl, ?_⟩) ?_ ?_
  rotate_left
  · intro w'
    go_simp
    try with_reducible rfl
  rotate_left
  · simp only [Act.put, List.setIfInBounds_toArray, List.set_cons_zero, List.set_cons_succ, i64_w, i32_w]
    rfl
  refine pure_ (i := 3) (N := some 59) (v := ?_) (a' := ?_) #[true, true, true, true, false, false, false, false, false, false, false, false, false, false, false, false, false, false, false, false, false] rfl rfl (by kernel_rfl) (fun _ _ _ h => h) (Or.inl ⟨by rfl, ?_⟩) ?_ ?_
  rotate_left
  · intro w'
    go_simp
    try with_reducible rfl
  rotate_left
  · simp only [Act.put, List.setIfInBounds_toArray, List.set_cons_zero, List.set_cons_succ, i64_w, i32_w]
    rfl
  refine take_ (i := 4) (N := some 60) (v := ?_) (a' := ?_) #[true, true, true, true, true, false, false, false, false, false, false, false, false, false, false, false, false, false, false, false, false] rfl rfl (by kernel_rfl) (fun _ _ _ h => h) (Or.inl ⟨by rfl, ?_⟩) hHeld ?_ ?_
  rotate_left
  · rintro w' hh
    have g0 : w'.cell? ⟨p7, 0, none⟩ = some (.int .i64 v1) := blk_cell hh.k7 0
    have g1 : w'.cell? ⟨p7, 1, none⟩ = some (.int .i64 v2) := blk_cell hh.k7 1
    have h0 : w'.cell? ⟨p9, 0, none⟩ = some (.int .i64 v1) := blk_cell hh.k9 0
    have h1 : w'.cell? ⟨p9, 1, none⟩ = some (.int .i64 v2) := blk_cell hh.k9 1
    have i0 : w'.cell? ⟨p11, 0, none⟩ = some (.int .i64 x1) := blk_cell hh.k11 0
    have i1 : w'.cell? ⟨p11, 1, none⟩ = some (.int .i64 x2) := blk_cell hh.k11 1
    have j0 : w'.cell? ⟨p13, 0, none⟩ = some (.int .i64 x1) := blk_cell hh.k13 0
    have j1 : w'.cell? ⟨p13, 1, none⟩ = some (.int .i64 x2) := blk_cell hh.k13 1
    go_simp
    with_reducible rfl
  rotate_left
  · simp only [Act.put, List.setIfInBounds_toArray, List.set_cons_zero, List.set_cons_succ, i64_w, i32_w]
    rfl
  refine take_ (i := 6) (N := some 62) (v := ?_) (a' := ?_) #[true, true, true, true, true, false, true, false, false, false, false, false, false, false, false, false, false, false, false, false, false] rfl rfl (by kernel_rfl) (fun _ _ _ h => h) (Or.inl ⟨by rfl, ?_⟩) hHeld ?_ ?_
  rotate_left
  · rintro w' hh
    have g0 : w'.cell? ⟨p7, 0, none⟩ = some (.int .i64 v1) := blk_cell hh.k7 0
    have g1 : w'.cell? ⟨p7, 1, none⟩ = some (.int .i64 v2) := blk_cell hh.k7 1
    have h0 : w'.cell? ⟨p9, 0, none⟩ = some (.int .i64 v1) := blk_cell hh.k9 0
    have h1 : w'.cell? ⟨p9, 1, none⟩ = some (.int .i64 v2) := blk_cell hh.k9 1
    have i0 : w'.cell? ⟨p11, 0, none⟩ = some (.int .i64 x1) := blk_cell hh.k11 0
    have i1 : w'.cell? ⟨p11, 1, none⟩ = some (.int .i64 x2) := blk_cell hh.k11 1
    have j0 : w'.cell? ⟨p13, 0, none⟩ = some (.int .i64 x1) := blk_cell hh.k13 0
    have j1 : w'.cell? ⟨p13, 1, none⟩ = some (.int .i64 x2) := blk_cell hh.k13 1
    go_simp
    with_reducible rfl
  rotate_left
  · simp only [Act.put, List.setIfInBounds_toArray, List.set_cons_zero, List.set_cons_succ, i64_w, i32_w]
    rfl
  refine one_ (i := 5) (N := some 61) #[true, true, true, true, true, true, true, false, false, false, false, false, false, false, false, false, false, false, false, false, false] rfl rfl (by kernel_rfl) (by decide) (fun K hK => ?_)
  refine goes_ Try.func32 (by kernel_rfl) rfl #[.agg #[.int .i64 v1, .int .i64 v2]] (by rfl) rfl rfl (by (try simp only [List.map_toArray, List.map_cons, List.map_nil]); first | done | rfl) ?_
  refine (plain_calls v1 v2 _).mono ?_
  rintro e wz ⟨rfl, hb_⟩
  refine ⟨_, rfl, ?_⟩
  refine hK.out _ _ (hHeld.step hb_) (fun hHeld => ?_)
  clear hK K
  refine norm_ (a' := ?_) ?_ ?_
  rotate_left
  · show Act.put _ (some 61) _ = _
    simp only [Act.put, List.setIfInBounds_toArray, List.set_cons_zero, List.set_cons_succ, i64_w, i32_w]
    rfl
  refine pure_ (i := 7) (N := some 63) (v := ?_) (a' := ?_) #[true, true, true, true, true, true, true, true, false, false, false, false, false, false, false, false, false, false, false, false, false] rfl rfl (by kernel_rfl) (fun _ _ _ h => h) (Or.inl ⟨by rfl, ?_⟩) ?_ ?_
  rotate_left
  · intro w'
    go_simp
    try with_reducible rfl
  rotate_left
  · simp only [Act.put, List.setIfInBounds_toArray, List.set_cons_zero, List.set_cons_succ, i64_w, i32_w]
    rfl
  refine pure_ (i := 8) (N := some 64) (v := ?_) (a' := ?_) #[true, true, true, true, true, true, true, true, true, false, false, false, false, false, false, false, false, false, false, false, false] rfl rfl (by kernel_rfl) (fun _ _ _ h => h) (Or.inl ⟨by rfl, ?_⟩) ?_ ?_
  rotate_left
  · intro w'
    go_simp
    try with_reducible rfl
  rotate_left
  · simp only [Act.put, List.setIfInBounds_toArray, List.set_cons_zero, List.set_cons_succ, i64_w, i32_w]
    rfl
  refine pure_ (i := 9) (N := some 65) (v := ?_) (a' := ?_) #[true, true, true, true, true, true, true, true, true, true, false, false, false, false, false, false, false, false, false, false, false] rfl rfl (by kernel_rfl) (fun _ _ _ h => h) (Or.inl ⟨by rfl, ?_⟩) ?_ ?_
  rotate_left
  · intro w'
    go_simp
    try with_reducible rfl
  rotate_left
  · simp only [Act.put, List.setIfInBounds_toArray, List.set_cons_zero, List.set_cons_succ, i64_w, i32_w]
    rfl
  refine pure_ (i := 10) (N := some 66) (v := ?_) (a' := ?_) #[true, true, true, true, true, true, true, true, true, true, true, false, false, false, false, false, false, false, false, false, false] rfl rfl (by kernel_rfl) (fun _ _ _ h => h) (Or.inl ⟨by rfl, ?_⟩) ?_ ?_
  rotate_left
  · intro w'
    go_simp
    try with_reducible rfl
  rotate_left
  · simp only [Act.put, List.setIfInBounds_toArray, List.set_cons_zero, List.set_cons_succ, i64_w, i32_w]
    rfl
  refine pure_ (i := 11) (N := some 67) (v := ?_) (a' := ?_) #[true, true, true, true, true, true, true, true, true, true, true, true, false, false, false, false, false, false, false, false, false] rfl rfl (by kernel_rfl) (fun _ _ _ h => h) (Or.inl ⟨by rfl, ?_⟩) ?_ ?_
  rotate_left
  · intro w'
    go_simp
    try with_reducible rfl
  rotate_left
  · simp only [Act.put, List.setIfInBounds_toArray, List.set_cons_zero, List.set_cons_succ, i64_w, i32_w]
    rfl
  refine pure_ (i := 12) (N := some 68) (v := ?_) (a' := ?_) #[true, true, true, true, true, true, true, true, true, true, true, true, true, false, false, false, false, false, false, false, false] rfl rfl (by kernel_rfl) (fun _ _ _ h => h) (Or.inl ⟨by rfl, ?_⟩) ?_ ?_
  rotate_left
  · intro w'
    go_simp
    try with_reducible rfl
  rotate_left
  · simp only [Act.put, List.setIfInBounds_toArray, List.set_cons_zero, List.set_cons_succ, i64_w, i32_w]
    rfl
  refine pure_ (i := 13) (N := some 69) (v := ?_) (a' := ?_) #[true, true, true, true, true, true, true, true, true, true, true, true, true, true, false, false, false, false, false, false, false] rfl rfl (by kernel_rfl) (fun _ _ _ h => h) (Or.inl ⟨by rfl, ?_⟩) ?_ ?_
  rotate_left
  · intro w'
    go_simp
    try with_reducible rfl
  rotate_left
  · simp only [Act.put, List.setIfInBounds_toArray, List.set_cons_zero, List.set_cons_succ, i64_w, i32_w]
    rfl
  refine pure_ (i := 14) (N := some 70) (v := ?_) (a' := ?_) #[true, true, true, true, true, true, true, true, true, true, true, true, true, true, true, false, false, false, false, false, false] rfl rfl (by kernel_rfl) (fun _ _ _ h => h) (Or.inl ⟨by rfl, ?_⟩) ?_ ?_
  rotate_left
  · intro w'
    go_simp
    try with_reducible rfl
  rotate_left
  · simp only [Act.put, List.setIfInBounds_toArray, List.set_cons_zero, List.set_cons_succ, i64_w, i32_w]
    rfl
  refine take_ (i := 15) (N := some 71) (v := ?_) (a' := ?_) #[true, true, true, true, true, true, true, true, true, true, true, true, true, true, true, true, false, false, false, false, false] rfl rfl (by kernel_rfl) (fun _ _ _ h => h) (Or.inl ⟨by rfl, ?_⟩) hHeld ?_ ?_
  rotate_left
  · rintro w' hh
    have g0 : w'.cell? ⟨p7, 0, none⟩ = some (.int .i64 v1) := blk_cell hh.k7 0
    have g1 : w'.cell? ⟨p7, 1, none⟩ = some (.int .i64 v2) := blk_cell hh.k7 1
    have h0 : w'.cell? ⟨p9, 0, none⟩ = some (.int .i64 v1) := blk_cell hh.k9 0
    have h1 : w'.cell? ⟨p9, 1, none⟩ = some (.int .i64 v2) := blk_cell hh.k9 1
    have i0 : w'.cell? ⟨p11, 0, none⟩ = some (.int .i64 x1) := blk_cell hh.k11 0
    have i1 : w'.cell? ⟨p11, 1, none⟩ = some (.int .i64 x2) := blk_cell hh.k11 1
    have j0 : w'.cell? ⟨p13, 0, none⟩ = some (.int .i64 x1) := blk_cell hh.k13 0
    have j1 : w'.cell? ⟨p13, 1, none⟩ = some (.int .i64 x2) := blk_cell hh.k13 1
    go_simp
    with_reducible rfl
  rotate_left
  · simp only [Act.put, List.setIfInBounds_toArray, List.set_cons_zero, List.set_cons_succ, i64_w, i32_w]
    rfl
  refine take_ (i := 17) (N := some 73) (v := ?_) (a' := ?_) #[true, true, true, true, true, true, true, true, true, true, true, true, true, true, true, true, false, true, false, false, false] rfl rfl (by kernel_rfl) (fun _ _ _ h => h) (Or.inl ⟨by rfl, ?_⟩) hHeld ?_ ?_
  rotate_left
  · rintro w' hh
    have g0 : w'.cell? ⟨p7, 0, none⟩ = some (.int .i64 v1) := blk_cell hh.k7 0
    have g1 : w'.cell? ⟨p7, 1, none⟩ = some (.int .i64 v2) := blk_cell hh.k7 1
    have h0 : w'.cell? ⟨p9, 0, none⟩ = some (.int .i64 v1) := blk_cell hh.k9 0
    have h1 : w'.cell? ⟨p9, 1, none⟩ = some (.int .i64 v2) := blk_cell hh.k9 1
    have i0 : w'.cell? ⟨p11, 0, none⟩ = some (.int .i64 x1) := blk_cell hh.k11 0
    have i1 : w'.cell? ⟨p11, 1, none⟩ = some (.int .i64 x2) := blk_cell hh.k11 1
    have j0 : w'.cell? ⟨p13, 0, none⟩ = some (.int .i64 x1) := blk_cell hh.k13 0
    have j1 : w'.cell? ⟨p13, 1, none⟩ = some (.int .i64 x2) := blk_cell hh.k13 1
    go_simp
    with_reducible rfl
  rotate_left
  · simp only [Act.put, List.setIfInBounds_toArray, List.set_cons_zero, List.set_cons_succ, i64_w, i32_w]
    rfl
  refine one_ (i := 16) (N := some 72) #[true, true, true, true, true, true, true, true, true, true, true, true, true, true, true, true, true, true, false, false, false] rfl rfl (by kernel_rfl) (by decide) (fun K hK => ?_)
  refine goes_ Try.func32 (by kernel_rfl) rfl #[.agg #[.int .i64 x1, .int .i64 x2]] (by rfl) rfl rfl (by (try simp only [List.map_toArray, List.map_cons, List.map_nil]); first | done | rfl) ?_
  refine (plain_calls x1 x2 _).mono ?_
  rintro e wz ⟨rfl, hb_⟩
  refine ⟨_, rfl, ?_⟩
  refine hK.out _ _ (hHeld.step hb_) (fun hHeld => ?_)
  clear hK K
  refine norm_ (a' := ?_) ?_ ?_
  rotate_left
  · show Act.put _ (some 72) _ = _
    simp only [Act.put, List.setIfInBounds_toArray, List.set_cons_zero, List.set_cons_succ, i64_w, i32_w]
    rfl
  refine pure_ (i := 18) (N := some 74) (v := ?_) (a' := ?_) #[true, true, true, true, true, true, true, true, true, true, true, true, true, true, true, true, true, true, true, false, false] rfl rfl (by kernel_rfl) (fun _ _ _ h => h) (Or.inl ⟨by rfl, ?_⟩) ?_ ?_
  rotate_left
  · intro w'
    go_simp
    try with_reducible rfl
  rotate_left
  · simp only [Act.put, List.setIfInBounds_toArray, List.set_cons_zero, List.set_cons_succ, i64_w, i32_w]
    rfl
  refine pure_ (i := 19) (N := some 75) (v := ?_) (a' := ?_) #[true, true, true, true, true, true, true, true, true, true, true, true, true, true, true, true, true, true, true, true, false] rfl rfl (by kernel_rfl) (fun _ _ _ h => h) (Or.inl ⟨by rfl, ?_⟩) ?_ ?_
  rotate_left
  · intro w'
    go_simp
    try with_reducible rfl
  rotate_left
  · simp only [Act.put, List.setIfInBounds_toArray, List.set_cons_zero, List.set_cons_succ, i64_w, i32_w]
    rfl
  refine pure_ (i := 20) (N := some 6) (v := ?_) (a' := ?_) #[true, true, true, true, true, true, true, true, true, true, true, true, true, true, true, true, true, true, true, true, true] rfl rfl (by kernel_rfl) (fun _ _ _ h => h) (Or.inl ⟨by rfl, ?_⟩) ?_ ?_
  rotate_left
  · intro w'
    go_simp
    try with_reducible rfl
  rotate_left
  · simp only [Act.put, List.setIfInBounds_toArray, List.set_cons_zero, List.set_cons_succ, i64_w, i32_w]
    rfl
  refine done_ (by kernel_rfl) ?_
  go_wp2_with fail
  go_ret
  exact ⟨by simp, hHeld.b.be⟩
end Go.Proofs.Ytcldlfhnmkogeaa.ScalePlaysWalk

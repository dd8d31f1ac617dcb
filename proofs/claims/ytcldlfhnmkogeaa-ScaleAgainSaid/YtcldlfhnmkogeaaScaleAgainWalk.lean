import Derived.Test.YtcldlfhnmkogeaaScaleAgainFacts
import Derived.Test.YtcldlfhnmkogeaaScaleLaw
/- The law ScaleAgain, walked. -/
set_option linter.unusedVariables false
set_option linter.unusedSimpArgs false
namespace Go.Proofs.Ytcldlfhnmkogeaa.ScaleAgainWalk
open Go.RowKit Go.Proofs.YtcldlfhnmkogeaaW.PrintWords Go.Proofs.YtcldlfhnmkogeaaW.PrintLast Go.Proofs.Ytcldlfhnmkogeaa.Nats Go.Proofs.Ytcldlfhnmkogeaa.HeapKit Go.Proofs.Ytcldlfhnmkogeaa.RatPlain Go.Proofs.Ytcldlfhnmkogeaa.Unit Go.Proofs.Ytcldlfhnmkogeaa.Scale

/-- The boxes. -/
structure Ag (w wx : World) (f0 : ByteArray) (f1 : Int) (f2 : ByteArray) (f3 sn sd on od : Int) (f8 : ByteArray) (p9 p10 : Nat) (y4 y5 y6 y7 : Int) (y8 : ByteArray) : Prop where
  b : B1 w wx (.cells #[.string f0, .int .i64 f1, .string f2, .int .i64 f3, .int .i64 sn, .int .i64 sd, .int .i64 on, .int .i64 od, .string f8] 25)
  k9 : wx.heap[p9]? = some (.cells #[.string f0, .int .i64 f1, .string f2, .int .i64 f3, .int .i64 sn, .int .i64 sd, .int .i64 on, .int .i64 od, .string f8] 34 (0, 0))
  k10 : wx.heap[p10]? = some (.cells #[.string f0, .int .i64 f1, .string f2, .int .i64 f3, .int .i64 y4, .int .i64 y5, .int .i64 y6, .int .i64 y7, .string y8] 34 (0, 0))
section
variable {w wx w2 : World} {f0 : ByteArray} {f1 : Int} {f2 : ByteArray} {f3 sn sd on od : Int} {f8 : ByteArray} {p9 p10 : Nat} {y4 y5 y6 y7 : Int} {y8 : ByteArray}
theorem Ag.step (h : Ag w wx f0 f1 f2 f3 sn sd on od f8 p9 p10 y4 y5 y6 y7 y8) (hb : Below wx.heap.size wx w2) : Ag w w2 f0 f1 f2 f3 sn sd on od f8 p9 p10 y4 y5 y6 y7 y8 :=
  ⟨h.b.step hb, blk_below h.k9 hb, blk_below h.k10 hb⟩
theorem Ag.put8 (h : Ag w wx f0 f1 f2 f3 sn sd on od f8 p9 p10 y4 y5 y6 y7 y8) (h1 : w.heap.size + 1 ≤ p10) (h2 : p9 ≠ p10) (u : ByteArray) : Ag w (wx.setCell ⟨p10, 8, none⟩ (.string u)) f0 f1 f2 f3 sn sd on od f8 p9 p10 y4 y5 y6 y7 u :=
  ⟨h.b.far (p := ⟨p10, 8, none⟩) h1 _, blk_far h.k9 (p := ⟨p10, 8, none⟩) h2 _, blk_put h.k10 8 _ rfl⟩
theorem Ag.put4 (h : Ag w wx f0 f1 f2 f3 sn sd on od f8 p9 p10 y4 y5 y6 y7 y8) (h1 : w.heap.size + 1 ≤ p10) (h2 : p9 ≠ p10) (u : Int) : Ag w (wx.setCell ⟨p10, 4, none⟩ (.int .i64 u)) f0 f1 f2 f3 sn sd on od f8 p9 p10 u y5 y6 y7 y8 :=
  ⟨h.b.far (p := ⟨p10, 4, none⟩) h1 _, blk_far h.k9 (p := ⟨p10, 4, none⟩) h2 _, blk_put h.k10 4 _ rfl⟩
theorem Ag.put5 (h : Ag w wx f0 f1 f2 f3 sn sd on od f8 p9 p10 y4 y5 y6 y7 y8) (h1 : w.heap.size + 1 ≤ p10) (h2 : p9 ≠ p10) (u : Int) : Ag w (wx.setCell ⟨p10, 5, none⟩ (.int .i64 u)) f0 f1 f2 f3 sn sd on od f8 p9 p10 y4 u y6 y7 y8 :=
  ⟨h.b.far (p := ⟨p10, 5, none⟩) h1 _, blk_far h.k9 (p := ⟨p10, 5, none⟩) h2 _, blk_put h.k10 5 _ rfl⟩
theorem Ag.put6 (h : Ag w wx f0 f1 f2 f3 sn sd on od f8 p9 p10 y4 y5 y6 y7 y8) (h1 : w.heap.size + 1 ≤ p10) (h2 : p9 ≠ p10) (u : Int) : Ag w (wx.setCell ⟨p10, 6, none⟩ (.int .i64 u)) f0 f1 f2 f3 sn sd on od f8 p9 p10 y4 y5 u y7 y8 :=
  ⟨h.b.far (p := ⟨p10, 6, none⟩) h1 _, blk_far h.k9 (p := ⟨p10, 6, none⟩) h2 _, blk_put h.k10 6 _ rfl⟩
theorem Ag.put7 (h : Ag w wx f0 f1 f2 f3 sn sd on od f8 p9 p10 y4 y5 y6 y7 y8) (h1 : w.heap.size + 1 ≤ p10) (h2 : p9 ≠ p10) (u : Int) : Ag w (wx.setCell ⟨p10, 7, none⟩ (.int .i64 u)) f0 f1 f2 f3 sn sd on od f8 p9 p10 y4 y5 y6 u y8 :=
  ⟨h.b.far (p := ⟨p10, 7, none⟩) h1 _, blk_far h.k9 (p := ⟨p10, 7, none⟩) h2 _, blk_put h.k10 7 _ rfl⟩
end
theorem conv_ex2 {a b : ByteArray} {vn vd : Int} (h1 : I64 vn) (h2 : I64 vd) : ∃ r1 r2 r3, convR a b vn vd = (r1, r2, r3) ∧ (∀ w, Calls Try.prog 29 #[.agg #[.int .i64 vn, .int .i64 vd], .string a, .string b] w fun e w' => e = .returned (.tuple #[.agg #[.int .i64 r1, .int .i64 r2], .int .i64 r3]) ∧ Below w.heap.size w w') ∧ I64 r1 ∧ I64 r2 :=
  UnitLaw.conv_ex h1 h2
theorem in_ex (f0 : ByteArray) (f1 : Int) (f2 : ByteArray) (f3 sn sd on od : Int) (f8 : ByteArray) (raw : Int) (tu : ByteArray) (hsn : I64 sn) (hsd : I64 sd) (hon : I64 on) (hod : I64 od) (hraw : I64 raw) : ∃ v1 v2 j, inR sn sd on od raw f8 tu = (v1, v2, j) ∧ ∀ w, Calls Try.prog 43 #[.agg #[.string f0, .int .i64 f1, .string f2, .int .i64 f3, .int .i64 sn, .int .i64 sd, .int .i64 on, .int .i64 od, .string f8], .int .i64 raw, .string tu] w fun e w' => e = .returned (.tuple #[.agg #[.int .i64 v1, .int .i64 v2], .int .i64 j]) ∧ Below w.heap.size w w' :=
  ⟨_, _, _, rfl, fun w => in_calls f0 f1 f2 f3 sn sd on od f8 raw tu hsn hsd hon hod hraw w⟩

set_option maxRecDepth 100000 in
set_option maxHeartbeats 4000000 in
theorem walk (f0 : ByteArray) (f1 : Int) (f2 : ByteArray) (f3 sn sd on od : Int) (f8 : ByteArray) (u2 tu : ByteArray) (raw : Int) (hsn : I64 sn) (hsd : I64 sd) (hon : I64 on) (hod : I64 od) (hraw : I64 raw) (w : World) :
    Calls Try.prog 14 #[.agg #[.string f0, .int .i64 f1, .string f2, .int .i64 f3, .int .i64 sn, .int .i64 sd, .int .i64 on, .int .i64 od, .string f8], .string u2, .string tu, .int .i64 raw] w fun e w' => e = .returned (.bool true) ∧ Below w.heap.size w w' := by
  obtain ⟨a1, a2, a3, ea, ca, ia1, ia2⟩ := conv_ex2 (a := f8) (b := u2) hsn hsd
  obtain ⟨b1, b2, b3, eb, cb, ib1, ib2⟩ := conv_ex2 (a := f8) (b := u2) (by decide : I64 0) (by decide : I64 1)
  obtain ⟨c1, c2, c3, ec, cc, ic1, ic2⟩ := conv_ex2 (a := f8) (b := u2) hon hod
  obtain ⟨v1, v2, j, ev, cv⟩ := in_ex f0 f1 f2 f3 sn sd on od f8 raw tu hsn hsd hon hod hraw
  have CA := Lib.hid ca
  have CB := Lib.hid cb
  have CC := Lib.hid cc
  have CV := Lib.hid cv
  have EA := Lib.hid ea
  have EB := Lib.hid eb
  have EC := Lib.hid ec
  have EV := Lib.hid ev
  clear ca cb cc cv ea eb ec ev
  go_enter Try.func14, Try.ntmps14
  go_wp2_with fail
  refine (Scale.awake_calls _).mono ?_
  rintro e w1 ⟨rfl, hb1⟩
  have hB := (b1_start w (.cells #[.string f0, .int .i64 f1, .string f2, .int .i64 f3, .int .i64 sn, .int .i64 sd, .int .i64 on, .int .i64 od, .string f8] 25)).step hb1
  clear hb1
  have fa0 : w1.cell? ⟨w.heap.size, 0, none⟩ = some (.string f0) := blk_cell hB.b1 0
  have fa1 : w1.cell? ⟨w.heap.size, 1, none⟩ = some (.int .i64 f1) := blk_cell hB.b1 1
  have fa2 : w1.cell? ⟨w.heap.size, 2, none⟩ = some (.string f2) := blk_cell hB.b1 2
  have fa3 : w1.cell? ⟨w.heap.size, 3, none⟩ = some (.int .i64 f3) := blk_cell hB.b1 3
  have fa4 : w1.cell? ⟨w.heap.size, 4, none⟩ = some (.int .i64 sn) := blk_cell hB.b1 4
  have fa5 : w1.cell? ⟨w.heap.size, 5, none⟩ = some (.int .i64 sd) := blk_cell hB.b1 5
  have fa6 : w1.cell? ⟨w.heap.size, 6, none⟩ = some (.int .i64 on) := blk_cell hB.b1 6
  have fa7 : w1.cell? ⟨w.heap.size, 7, none⟩ = some (.int .i64 od) := blk_cell hB.b1 7
  have fa8 : w1.cell? ⟨w.heap.size, 8, none⟩ = some (.string f8) := blk_cell hB.b1 8
  go_wp2_with fail
  refine (few_calls f0 f1 f2 f3 sn sd on od f8 _).mono ?_
  rintro e w2 ⟨he, hb2⟩
  replace hB := hB.step hb2
  clear hb2 fa0 fa1 fa2 fa3 fa4 fa5 fa6 fa7 fa8
  rcases he with rfl | rfl
  · go_wp2_with fail
    refine (Scale.awake_calls _).mono ?_
    rintro e w9 ⟨rfl, hb9⟩
    replace hB := hB.step hb9
    go_wp2_with fail
    go_ret
    exact ⟨rfl, hB.be⟩
  by_cases q0 : ((u2.size : Nat) : Int) > 50
  · have t0 : decide (((u2.size : Nat) : Int) > 50) = true := decide_eq_true q0
    go_wp2_with fail
    refine (Scale.awake_calls _).mono ?_
    rintro e w9 ⟨rfl, hb9⟩
    replace hB := hB.step hb9
    go_wp2_with fail
    go_ret
    exact ⟨rfl, hB.be⟩
  have t0 : decide (((u2.size : Nat) : Int) > 50) = false := decide_eq_false q0
  by_cases q1 : ((tu.size : Nat) : Int) > 50
  · have t1 : decide (((tu.size : Nat) : Int) > 50) = true := decide_eq_true q1
    go_wp2_with fail
    refine (Scale.awake_calls _).mono ?_
    rintro e w9 ⟨rfl, hb9⟩
    replace hB := hB.step hb9
    go_wp2_with fail
    go_ret
    exact ⟨rfl, hB.be⟩
  have t1 : decide (((tu.size : Nat) : Int) > 50) = false := decide_eq_false q1
  have fa0 : w2.cell? ⟨w.heap.size, 0, none⟩ = some (.string f0) := blk_cell hB.b1 0
  have fa1 : w2.cell? ⟨w.heap.size, 1, none⟩ = some (.int .i64 f1) := blk_cell hB.b1 1
  have fa2 : w2.cell? ⟨w.heap.size, 2, none⟩ = some (.string f2) := blk_cell hB.b1 2
  have fa3 : w2.cell? ⟨w.heap.size, 3, none⟩ = some (.int .i64 f3) := blk_cell hB.b1 3
  have fa4 : w2.cell? ⟨w.heap.size, 4, none⟩ = some (.int .i64 sn) := blk_cell hB.b1 4
  have fa5 : w2.cell? ⟨w.heap.size, 5, none⟩ = some (.int .i64 sd) := blk_cell hB.b1 5
  have fa6 : w2.cell? ⟨w.heap.size, 6, none⟩ = some (.int .i64 on) := blk_cell hB.b1 6
  have fa7 : w2.cell? ⟨w.heap.size, 7, none⟩ = some (.int .i64 od) := blk_cell hB.b1 7
  have fa8 : w2.cell? ⟨w.heap.size, 8, none⟩ = some (.string f8) := blk_cell hB.b1 8
  go_wp2_with fail
  clear t0 t1 q0 q1 fa0 fa1 fa2 fa3 fa4 fa5 fa6 fa7 fa8
  refine (of_calls f0 f1 f2 f3 sn sd on od f8 _).mono ?_
  rintro e w3 ⟨rfl, hb_⟩
  replace hB := hB.step hb_
  have z9 := hB.size
  replace hB := hB.step (below_alloc (Below.refl _ _) (.cells #[.string f0, .int .i64 f1, .string f2, .int .i64 f3, .int .i64 sn, .int .i64 sd, .int .i64 on, .int .i64 od, .string f8] 34))
  have k9 := blk_new w3 (.cells #[.string f0, .int .i64 f1, .string f2, .int .i64 f3, .int .i64 sn, .int .i64 sd, .int .i64 on, .int .i64 od, .string f8] 34)
  clear hb_
  have fa0 : (w3.alloc (.cells #[.string f0, .int .i64 f1, .string f2, .int .i64 f3, .int .i64 sn, .int .i64 sd, .int .i64 on, .int .i64 od, .string f8] 34)).cell? ⟨w.heap.size, 0, none⟩ = some (.string f0) := blk_cell hB.b1 0
  have fa1 : (w3.alloc (.cells #[.string f0, .int .i64 f1, .string f2, .int .i64 f3, .int .i64 sn, .int .i64 sd, .int .i64 on, .int .i64 od, .string f8] 34)).cell? ⟨w.heap.size, 1, none⟩ = some (.int .i64 f1) := blk_cell hB.b1 1
  have fa2 : (w3.alloc (.cells #[.string f0, .int .i64 f1, .string f2, .int .i64 f3, .int .i64 sn, .int .i64 sd, .int .i64 on, .int .i64 od, .string f8] 34)).cell? ⟨w.heap.size, 2, none⟩ = some (.string f2) := blk_cell hB.b1 2
  have fa3 : (w3.alloc (.cells #[.string f0, .int .i64 f1, .string f2, .int .i64 f3, .int .i64 sn, .int .i64 sd, .int .i64 on, .int .i64 od, .string f8] 34)).cell? ⟨w.heap.size, 3, none⟩ = some (.int .i64 f3) := blk_cell hB.b1 3
  have fa4 : (w3.alloc (.cells #[.string f0, .int .i64 f1, .string f2, .int .i64 f3, .int .i64 sn, .int .i64 sd, .int .i64 on, .int .i64 od, .string f8] 34)).cell? ⟨w.heap.size, 4, none⟩ = some (.int .i64 sn) := blk_cell hB.b1 4
  have fa5 : (w3.alloc (.cells #[.string f0, .int .i64 f1, .string f2, .int .i64 f3, .int .i64 sn, .int .i64 sd, .int .i64 on, .int .i64 od, .string f8] 34)).cell? ⟨w.heap.size, 5, none⟩ = some (.int .i64 sd) := blk_cell hB.b1 5
  have fa6 : (w3.alloc (.cells #[.string f0, .int .i64 f1, .string f2, .int .i64 f3, .int .i64 sn, .int .i64 sd, .int .i64 on, .int .i64 od, .string f8] 34)).cell? ⟨w.heap.size, 6, none⟩ = some (.int .i64 on) := blk_cell hB.b1 6
  have fa7 : (w3.alloc (.cells #[.string f0, .int .i64 f1, .string f2, .int .i64 f3, .int .i64 sn, .int .i64 sd, .int .i64 on, .int .i64 od, .string f8] 34)).cell? ⟨w.heap.size, 7, none⟩ = some (.int .i64 od) := blk_cell hB.b1 7
  have fa8 : (w3.alloc (.cells #[.string f0, .int .i64 f1, .string f2, .int .i64 f3, .int .i64 sn, .int .i64 sd, .int .i64 on, .int .i64 od, .string f8] 34)).cell? ⟨w.heap.size, 8, none⟩ = some (.string f8) := blk_cell hB.b1 8
  go_wp2_with fail
  clear fa0 fa1 fa2 fa3 fa4 fa5 fa6 fa7 fa8
  refine (of_calls f0 f1 f2 f3 sn sd on od f8 _).mono ?_
  rintro e w4 ⟨rfl, hb_⟩
  have z10 := blk_lt (blk_below k9 hb_)
  have hA : Ag w (w4.alloc (.cells #[.string f0, .int .i64 f1, .string f2, .int .i64 f3, .int .i64 sn, .int .i64 sd, .int .i64 on, .int .i64 od, .string u2] 34)) f0 f1 f2 f3 sn sd on od f8 w3.heap.size w4.heap.size sn sd on od u2 := ⟨(hB.step hb_).step (below_alloc (Below.refl _ _) _), blk_alloc (blk_below k9 hb_) _, blk_new w4 _⟩
  clear hB k9 hb_
  obtain ⟨p9, hp9⟩ : ∃ p, p = w3.heap.size := ⟨_, rfl⟩
  rw [← hp9] at hA z9 z10
  rw [← hp9]
  clear hp9
  have n1 : w.heap.size + 1 ≤ w4.heap.size := by omega
  have n2 : p9 ≠ w4.heap.size := by omega
  have fa0 : (w4.alloc (.cells #[.string f0, .int .i64 f1, .string f2, .int .i64 f3, .int .i64 sn, .int .i64 sd, .int .i64 on, .int .i64 od, .string u2] 34)).cell? ⟨p9, 0, none⟩ = some (.string f0) := blk_cell hA.k9 0
  have fa1 : (w4.alloc (.cells #[.string f0, .int .i64 f1, .string f2, .int .i64 f3, .int .i64 sn, .int .i64 sd, .int .i64 on, .int .i64 od, .string u2] 34)).cell? ⟨p9, 1, none⟩ = some (.int .i64 f1) := blk_cell hA.k9 1
  have fa2 : (w4.alloc (.cells #[.string f0, .int .i64 f1, .string f2, .int .i64 f3, .int .i64 sn, .int .i64 sd, .int .i64 on, .int .i64 od, .string u2] 34)).cell? ⟨p9, 2, none⟩ = some (.string f2) := blk_cell hA.k9 2
  have fa3 : (w4.alloc (.cells #[.string f0, .int .i64 f1, .string f2, .int .i64 f3, .int .i64 sn, .int .i64 sd, .int .i64 on, .int .i64 od, .string u2] 34)).cell? ⟨p9, 3, none⟩ = some (.int .i64 f3) := blk_cell hA.k9 3
  have fa4 : (w4.alloc (.cells #[.string f0, .int .i64 f1, .string f2, .int .i64 f3, .int .i64 sn, .int .i64 sd, .int .i64 on, .int .i64 od, .string u2] 34)).cell? ⟨p9, 4, none⟩ = some (.int .i64 sn) := blk_cell hA.k9 4
  have fa5 : (w4.alloc (.cells #[.string f0, .int .i64 f1, .string f2, .int .i64 f3, .int .i64 sn, .int .i64 sd, .int .i64 on, .int .i64 od, .string u2] 34)).cell? ⟨p9, 5, none⟩ = some (.int .i64 sd) := blk_cell hA.k9 5
  have fa6 : (w4.alloc (.cells #[.string f0, .int .i64 f1, .string f2, .int .i64 f3, .int .i64 sn, .int .i64 sd, .int .i64 on, .int .i64 od, .string u2] 34)).cell? ⟨p9, 6, none⟩ = some (.int .i64 on) := blk_cell hA.k9 6
  have fa7 : (w4.alloc (.cells #[.string f0, .int .i64 f1, .string f2, .int .i64 f3, .int .i64 sn, .int .i64 sd, .int .i64 on, .int .i64 od, .string u2] 34)).cell? ⟨p9, 7, none⟩ = some (.int .i64 od) := blk_cell hA.k9 7
  have fa8 : (w4.alloc (.cells #[.string f0, .int .i64 f1, .string f2, .int .i64 f3, .int .i64 sn, .int .i64 sd, .int .i64 on, .int .i64 od, .string u2] 34)).cell? ⟨p9, 8, none⟩ = some (.string f8) := blk_cell hA.k9 8
  go_wp2_with fail
  clear fa0 fa1 fa2 fa3 fa4 fa5 fa6 fa7 fa8
  obtain ⟨p10, hp10⟩ : ∃ p, p = w4.heap.size := ⟨_, rfl⟩
  obtain ⟨W5, hW5⟩ : ∃ W, W = w4.alloc (.cells #[.string f0, .int .i64 f1, .string f2, .int .i64 f3, .int .i64 sn, .int .i64 sd, .int .i64 on, .int .i64 od, .string u2] 34) := ⟨_, rfl⟩
  rw [← hW5, ← hp10] at hA
  rw [← hp10] at n1 n2 z10
  rw [← hW5, ← hp10]
  clear hW5 hp10
  refine (CA.out _).mono ?_
  rintro e w6 ⟨rfl, hb_⟩
  replace hA := (hA.step hb_).step (below_alloc (Below.refl _ _) (.cells #[.int .i64 a1, .int .i64 a2] 29))
  have k11 := blk_new w6 (.cells #[.int .i64 a1, .int .i64 a2] 29)
  clear hb_
  have fa0 : (w6.alloc (.cells #[.int .i64 a1, .int .i64 a2] 29)).cell? ⟨p9, 0, none⟩ = some (.string f0) := blk_cell hA.k9 0
  have fa1 : (w6.alloc (.cells #[.int .i64 a1, .int .i64 a2] 29)).cell? ⟨p9, 1, none⟩ = some (.int .i64 f1) := blk_cell hA.k9 1
  have fa2 : (w6.alloc (.cells #[.int .i64 a1, .int .i64 a2] 29)).cell? ⟨p9, 2, none⟩ = some (.string f2) := blk_cell hA.k9 2
  have fa3 : (w6.alloc (.cells #[.int .i64 a1, .int .i64 a2] 29)).cell? ⟨p9, 3, none⟩ = some (.int .i64 f3) := blk_cell hA.k9 3
  have fa4 : (w6.alloc (.cells #[.int .i64 a1, .int .i64 a2] 29)).cell? ⟨p9, 4, none⟩ = some (.int .i64 sn) := blk_cell hA.k9 4
  have fa5 : (w6.alloc (.cells #[.int .i64 a1, .int .i64 a2] 29)).cell? ⟨p9, 5, none⟩ = some (.int .i64 sd) := blk_cell hA.k9 5
  have fa6 : (w6.alloc (.cells #[.int .i64 a1, .int .i64 a2] 29)).cell? ⟨p9, 6, none⟩ = some (.int .i64 on) := blk_cell hA.k9 6
  have fa7 : (w6.alloc (.cells #[.int .i64 a1, .int .i64 a2] 29)).cell? ⟨p9, 7, none⟩ = some (.int .i64 od) := blk_cell hA.k9 7
  have fa8 : (w6.alloc (.cells #[.int .i64 a1, .int .i64 a2] 29)).cell? ⟨p9, 8, none⟩ = some (.string f8) := blk_cell hA.k9 8
  go_wp2_with fail
  clear fa0 fa1 fa2 fa3 fa4 fa5 fa6 fa7 fa8
  refine (CB.out _).mono ?_
  rintro e w7 ⟨rfl, hb_⟩
  replace k11 := blk_below (blk_below k11 hb_) (below_alloc (Below.refl _ _) (.cells #[.int .i64 b1, .int .i64 b2] 29))
  replace hA := (hA.step hb_).step (below_alloc (Below.refl _ _) (.cells #[.int .i64 b1, .int .i64 b2] 29))
  have k13 := blk_new w7 (.cells #[.int .i64 b1, .int .i64 b2] 29)
  clear hb_
  have fa0 : (w7.alloc (.cells #[.int .i64 b1, .int .i64 b2] 29)).cell? ⟨p9, 0, none⟩ = some (.string f0) := blk_cell hA.k9 0
  have fa1 : (w7.alloc (.cells #[.int .i64 b1, .int .i64 b2] 29)).cell? ⟨p9, 1, none⟩ = some (.int .i64 f1) := blk_cell hA.k9 1
  have fa2 : (w7.alloc (.cells #[.int .i64 b1, .int .i64 b2] 29)).cell? ⟨p9, 2, none⟩ = some (.string f2) := blk_cell hA.k9 2
  have fa3 : (w7.alloc (.cells #[.int .i64 b1, .int .i64 b2] 29)).cell? ⟨p9, 3, none⟩ = some (.int .i64 f3) := blk_cell hA.k9 3
  have fa4 : (w7.alloc (.cells #[.int .i64 b1, .int .i64 b2] 29)).cell? ⟨p9, 4, none⟩ = some (.int .i64 sn) := blk_cell hA.k9 4
  have fa5 : (w7.alloc (.cells #[.int .i64 b1, .int .i64 b2] 29)).cell? ⟨p9, 5, none⟩ = some (.int .i64 sd) := blk_cell hA.k9 5
  have fa6 : (w7.alloc (.cells #[.int .i64 b1, .int .i64 b2] 29)).cell? ⟨p9, 6, none⟩ = some (.int .i64 on) := blk_cell hA.k9 6
  have fa7 : (w7.alloc (.cells #[.int .i64 b1, .int .i64 b2] 29)).cell? ⟨p9, 7, none⟩ = some (.int .i64 od) := blk_cell hA.k9 7
  have fa8 : (w7.alloc (.cells #[.int .i64 b1, .int .i64 b2] 29)).cell? ⟨p9, 8, none⟩ = some (.string f8) := blk_cell hA.k9 8
  go_wp2_with fail
  clear fa0 fa1 fa2 fa3 fa4 fa5 fa6 fa7 fa8
  refine (CC.out _).mono ?_
  rintro e w8 ⟨rfl, hb_⟩
  replace k11 := blk_below (blk_below k11 hb_) (below_alloc (Below.refl _ _) (.cells #[.int .i64 c1, .int .i64 c2] 29))
  replace k13 := blk_below (blk_below k13 hb_) (below_alloc (Below.refl _ _) (.cells #[.int .i64 c1, .int .i64 c2] 29))
  replace hA := (hA.step hb_).step (below_alloc (Below.refl _ _) (.cells #[.int .i64 c1, .int .i64 c2] 29))
  have k15 := blk_new w8 (.cells #[.int .i64 c1, .int .i64 c2] 29)
  clear hb_
  obtain ⟨p11, hp11⟩ : ∃ p, p = w6.heap.size := ⟨_, rfl⟩
  obtain ⟨p13, hp13⟩ : ∃ p, p = w7.heap.size := ⟨_, rfl⟩
  rw [← hp11] at k11
  rw [← hp13] at k13
  rw [← hp11, ← hp13]
  clear hp11 hp13
  by_cases m1 : a3 = 0
  · by_cases m2 : b3 = 0
    · by_cases m3 : c3 = 0
      · subst m1 m2 m3
        have d0 : (w8.alloc (.cells #[.int .i64 c1, .int .i64 c2] 29)).cell? ⟨p13, 0, none⟩ = some (.int .i64 b1) := blk_cell k13 0
        have d1 : (w8.alloc (.cells #[.int .i64 c1, .int .i64 c2] 29)).cell? ⟨p13, 1, none⟩ = some (.int .i64 b2) := blk_cell k13 1
        by_cases m4 : b1 = -9223372036854775808
        · have t4 : (b1 == -9223372036854775808) = true := by simp [m4]
          clear m4
          go_wp2_with fail
          go_ret
          exact ⟨rfl, hA.b.be⟩
        · have t4 : (b1 == -9223372036854775808) = false := by simp [m4]
          have inb : I64 (-b1) := by unfold I64 at *; omega
          have eno : IntKind.i64.wrap (-b1) = -b1 := by rw [i64_w]; exact wrap_in inb
          have hadd := fun w => add_calls ia1 ia2 inb ib2 w
          obtain ⟨_, _, _, _, _, ra, _⟩ := conv_ok (conv_Rt EA.out) EA.out
          obtain ⟨_, _, _, _, _, rb, _⟩ := conv_ok (Rt_one 0) EB.out
          have rnb := Rt_neg rb
          have iadd := add_In ra rnb
          obtain ⟨M, hM⟩ : ∃ M, addR a1 a2 (-b1) b2 = M := ⟨_, rfl⟩
          simp only [told_outA (P := Rt a1 a2 ∧ Rt (-b1) b2) ⟨ra, rnb⟩, hM, ans] at hadd
          rw [hM] at iadd
          have HADD := Lib.hid hadd
          have HM := Lib.hid hM
          have IA := Lib.hid iadd
          clear hadd hM iadd ra rb rnb m4 inb
          have kc0 : (w8.alloc (.cells #[.int .i64 c1, .int .i64 c2] 29)).cell? ⟨p11, 0, none⟩ = some (.int .i64 a1) := blk_cell k11 0
          have kc1 : (w8.alloc (.cells #[.int .i64 c1, .int .i64 c2] 29)).cell? ⟨p11, 1, none⟩ = some (.int .i64 a2) := blk_cell k11 1
          go_wp2_with fail
          clear kc0 kc1 d0 d1 eno t4
          obtain ⟨p15, hp15⟩ : ∃ p, p = w8.heap.size := ⟨_, rfl⟩
          obtain ⟨W8, hW8⟩ : ∃ W, W = w8.alloc (.cells #[.int .i64 c1, .int .i64 c2] 29) := ⟨_, rfl⟩
          rw [← hW8] at hA k11 k13 k15
          rw [← hp15] at k15
          rw [← hp15, ← hW8]
          clear hp15 hW8
          cases M with
          | none =>
            have cc := HADD.out
            simp only [outA] at cc
            refine (cc _).mono ?_
            rintro e w9 ⟨rfl, hb_⟩
            have hBe := (hA.step hb_).b.step (below_alloc (Below.refl _ _) (.cells #[.int .i64 0, .int .i64 0] 29))
            go_wp2_with fail
            go_ret
            exact ⟨rfl, hBe.be⟩
          | some s =>
            obtain ⟨s1, s2⟩ := s
            have cc := HADD.out
            simp only [outA] at cc
            obtain ⟨is1, is2⟩ := IA.out _ rfl
            dsimp only at is1 is2
            obtain ⟨w1', w2', k, ew, cw⟩ := in_ex f0 f1 f2 f3 s1 s2 c1 c2 u2 raw tu is1 is2 ic1 ic2 hraw
            have hfit := again EA.out EB.out EC.out HM.out EV.out ew
            have CW := Lib.hid cw
            have HF := Lib.hid hfit
            clear cw hfit ew EA EB EC EV HM IA
            refine (cc _).mono ?_
            rintro e w9 ⟨rfl, hb_⟩
            clear cc HADD
            replace k15 := blk_below (blk_below k15 hb_) (below_alloc (Below.refl _ _) (.cells #[.int .i64 s1, .int .i64 s2] 29))
            replace hA := (hA.step hb_).step (below_alloc (Below.refl _ _) (.cells #[.int .i64 s1, .int .i64 s2] 29))
            have k17 := blk_new w9 (.cells #[.int .i64 s1, .int .i64 s2] 29)
            clear hb_ k11 k13
            have n3 : p15 ≠ p10 := blk_ne k15 hA.k10 (by decide)
            have n4 : w9.heap.size ≠ p10 := blk_ne k17 hA.k10 (by decide)
            have kc0 : (w9.alloc (.cells #[.int .i64 s1, .int .i64 s2] 29)).cell? ⟨w9.heap.size, 0, none⟩ = some (.int .i64 s1) := blk_cell k17 0
            have kc1 : (w9.alloc (.cells #[.int .i64 s1, .int .i64 s2] 29)).cell? ⟨w9.heap.size, 1, none⟩ = some (.int .i64 s2) := blk_cell k17 1
            have y0 : (w9.alloc (.cells #[.int .i64 s1, .int .i64 s2] 29)).cell? ⟨p10, 0, none⟩ = some (.string f0) := blk_cell hA.k10 0
            have yf0 : (w9.alloc (.cells #[.int .i64 s1, .int .i64 s2] 29)).frozen? ⟨p10, 0, none⟩ = false := blk_frozen hA.k10 0
            have y1 : (w9.alloc (.cells #[.int .i64 s1, .int .i64 s2] 29)).cell? ⟨p10, 1, none⟩ = some (.int .i64 f1) := blk_cell hA.k10 1
            have yf1 : (w9.alloc (.cells #[.int .i64 s1, .int .i64 s2] 29)).frozen? ⟨p10, 1, none⟩ = false := blk_frozen hA.k10 1
            have y2 : (w9.alloc (.cells #[.int .i64 s1, .int .i64 s2] 29)).cell? ⟨p10, 2, none⟩ = some (.string f2) := blk_cell hA.k10 2
            have yf2 : (w9.alloc (.cells #[.int .i64 s1, .int .i64 s2] 29)).frozen? ⟨p10, 2, none⟩ = false := blk_frozen hA.k10 2
            have y3 : (w9.alloc (.cells #[.int .i64 s1, .int .i64 s2] 29)).cell? ⟨p10, 3, none⟩ = some (.int .i64 f3) := blk_cell hA.k10 3
            have yf3 : (w9.alloc (.cells #[.int .i64 s1, .int .i64 s2] 29)).frozen? ⟨p10, 3, none⟩ = false := blk_frozen hA.k10 3
            have y4 : (w9.alloc (.cells #[.int .i64 s1, .int .i64 s2] 29)).cell? ⟨p10, 4, none⟩ = some (.int .i64 sn) := blk_cell hA.k10 4
            have yf4 : (w9.alloc (.cells #[.int .i64 s1, .int .i64 s2] 29)).frozen? ⟨p10, 4, none⟩ = false := blk_frozen hA.k10 4
            have y5 : (w9.alloc (.cells #[.int .i64 s1, .int .i64 s2] 29)).cell? ⟨p10, 5, none⟩ = some (.int .i64 sd) := blk_cell hA.k10 5
            have yf5 : (w9.alloc (.cells #[.int .i64 s1, .int .i64 s2] 29)).frozen? ⟨p10, 5, none⟩ = false := blk_frozen hA.k10 5
            have y6 : (w9.alloc (.cells #[.int .i64 s1, .int .i64 s2] 29)).cell? ⟨p10, 6, none⟩ = some (.int .i64 on) := blk_cell hA.k10 6
            have yf6 : (w9.alloc (.cells #[.int .i64 s1, .int .i64 s2] 29)).frozen? ⟨p10, 6, none⟩ = false := blk_frozen hA.k10 6
            have y7 : (w9.alloc (.cells #[.int .i64 s1, .int .i64 s2] 29)).cell? ⟨p10, 7, none⟩ = some (.int .i64 od) := blk_cell hA.k10 7
            have yf7 : (w9.alloc (.cells #[.int .i64 s1, .int .i64 s2] 29)).frozen? ⟨p10, 7, none⟩ = false := blk_frozen hA.k10 7
            have y8 : (w9.alloc (.cells #[.int .i64 s1, .int .i64 s2] 29)).cell? ⟨p10, 8, none⟩ = some (.string u2) := blk_cell hA.k10 8
            have yf8 : (w9.alloc (.cells #[.int .i64 s1, .int .i64 s2] 29)).frozen? ⟨p10, 8, none⟩ = false := blk_frozen hA.k10 8
            have h4 := hA.put4 n1 n2 s1
            have h5 := h4.put5 n1 n2 s2
            have h6 := h5.put6 n1 n2 c1
            have h7 := h6.put7 n1 n2 c2
            have k15b := blk_far (blk_far k15 (p := ⟨p10, 4, none⟩) n3 (.int .i64 s1)) (p := ⟨p10, 5, none⟩) n3 (.int .i64 s2)
            have g0 : (((w9.alloc (.cells #[.int .i64 s1, .int .i64 s2] 29)).setCell ⟨p10, 4, none⟩ (.int .i64 s1)).setCell ⟨p10, 5, none⟩ (.int .i64 s2)).cell? ⟨p15, 0, none⟩ = some (.int .i64 c1) := blk_cell k15b 0
            have g1 : (((w9.alloc (.cells #[.int .i64 s1, .int .i64 s2] 29)).setCell ⟨p10, 4, none⟩ (.int .i64 s1)).setCell ⟨p10, 5, none⟩ (.int .i64 s2)).cell? ⟨p15, 1, none⟩ = some (.int .i64 c2) := blk_cell k15b 1
            have x0 : (((w9.alloc (.cells #[.int .i64 s1, .int .i64 s2] 29)).setCell ⟨p10, 4, none⟩ (.int .i64 s1)).setCell ⟨p10, 5, none⟩ (.int .i64 s2)).cell? ⟨p10, 0, none⟩ = some (.string f0) := blk_cell h5.k10 0
            have xf0 : (((w9.alloc (.cells #[.int .i64 s1, .int .i64 s2] 29)).setCell ⟨p10, 4, none⟩ (.int .i64 s1)).setCell ⟨p10, 5, none⟩ (.int .i64 s2)).frozen? ⟨p10, 0, none⟩ = false := blk_frozen h5.k10 0
            have x1 : (((w9.alloc (.cells #[.int .i64 s1, .int .i64 s2] 29)).setCell ⟨p10, 4, none⟩ (.int .i64 s1)).setCell ⟨p10, 5, none⟩ (.int .i64 s2)).cell? ⟨p10, 1, none⟩ = some (.int .i64 f1) := blk_cell h5.k10 1
            have xf1 : (((w9.alloc (.cells #[.int .i64 s1, .int .i64 s2] 29)).setCell ⟨p10, 4, none⟩ (.int .i64 s1)).setCell ⟨p10, 5, none⟩ (.int .i64 s2)).frozen? ⟨p10, 1, none⟩ = false := blk_frozen h5.k10 1
            have x2 : (((w9.alloc (.cells #[.int .i64 s1, .int .i64 s2] 29)).setCell ⟨p10, 4, none⟩ (.int .i64 s1)).setCell ⟨p10, 5, none⟩ (.int .i64 s2)).cell? ⟨p10, 2, none⟩ = some (.string f2) := blk_cell h5.k10 2
            have xf2 : (((w9.alloc (.cells #[.int .i64 s1, .int .i64 s2] 29)).setCell ⟨p10, 4, none⟩ (.int .i64 s1)).setCell ⟨p10, 5, none⟩ (.int .i64 s2)).frozen? ⟨p10, 2, none⟩ = false := blk_frozen h5.k10 2
            have x3 : (((w9.alloc (.cells #[.int .i64 s1, .int .i64 s2] 29)).setCell ⟨p10, 4, none⟩ (.int .i64 s1)).setCell ⟨p10, 5, none⟩ (.int .i64 s2)).cell? ⟨p10, 3, none⟩ = some (.int .i64 f3) := blk_cell h5.k10 3
            have xf3 : (((w9.alloc (.cells #[.int .i64 s1, .int .i64 s2] 29)).setCell ⟨p10, 4, none⟩ (.int .i64 s1)).setCell ⟨p10, 5, none⟩ (.int .i64 s2)).frozen? ⟨p10, 3, none⟩ = false := blk_frozen h5.k10 3
            have x4 : (((w9.alloc (.cells #[.int .i64 s1, .int .i64 s2] 29)).setCell ⟨p10, 4, none⟩ (.int .i64 s1)).setCell ⟨p10, 5, none⟩ (.int .i64 s2)).cell? ⟨p10, 4, none⟩ = some (.int .i64 s1) := blk_cell h5.k10 4
            have xf4 : (((w9.alloc (.cells #[.int .i64 s1, .int .i64 s2] 29)).setCell ⟨p10, 4, none⟩ (.int .i64 s1)).setCell ⟨p10, 5, none⟩ (.int .i64 s2)).frozen? ⟨p10, 4, none⟩ = false := blk_frozen h5.k10 4
            have x5 : (((w9.alloc (.cells #[.int .i64 s1, .int .i64 s2] 29)).setCell ⟨p10, 4, none⟩ (.int .i64 s1)).setCell ⟨p10, 5, none⟩ (.int .i64 s2)).cell? ⟨p10, 5, none⟩ = some (.int .i64 s2) := blk_cell h5.k10 5
            have xf5 : (((w9.alloc (.cells #[.int .i64 s1, .int .i64 s2] 29)).setCell ⟨p10, 4, none⟩ (.int .i64 s1)).setCell ⟨p10, 5, none⟩ (.int .i64 s2)).frozen? ⟨p10, 5, none⟩ = false := blk_frozen h5.k10 5
            have x6 : (((w9.alloc (.cells #[.int .i64 s1, .int .i64 s2] 29)).setCell ⟨p10, 4, none⟩ (.int .i64 s1)).setCell ⟨p10, 5, none⟩ (.int .i64 s2)).cell? ⟨p10, 6, none⟩ = some (.int .i64 on) := blk_cell h5.k10 6
            have xf6 : (((w9.alloc (.cells #[.int .i64 s1, .int .i64 s2] 29)).setCell ⟨p10, 4, none⟩ (.int .i64 s1)).setCell ⟨p10, 5, none⟩ (.int .i64 s2)).frozen? ⟨p10, 6, none⟩ = false := blk_frozen h5.k10 6
            have x7 : (((w9.alloc (.cells #[.int .i64 s1, .int .i64 s2] 29)).setCell ⟨p10, 4, none⟩ (.int .i64 s1)).setCell ⟨p10, 5, none⟩ (.int .i64 s2)).cell? ⟨p10, 7, none⟩ = some (.int .i64 od) := blk_cell h5.k10 7
            have xf7 : (((w9.alloc (.cells #[.int .i64 s1, .int .i64 s2] 29)).setCell ⟨p10, 4, none⟩ (.int .i64 s1)).setCell ⟨p10, 5, none⟩ (.int .i64 s2)).frozen? ⟨p10, 7, none⟩ = false := blk_frozen h5.k10 7
            have x8 : (((w9.alloc (.cells #[.int .i64 s1, .int .i64 s2] 29)).setCell ⟨p10, 4, none⟩ (.int .i64 s1)).setCell ⟨p10, 5, none⟩ (.int .i64 s2)).cell? ⟨p10, 8, none⟩ = some (.string u2) := blk_cell h5.k10 8
            have xf8 : (((w9.alloc (.cells #[.int .i64 s1, .int .i64 s2] 29)).setCell ⟨p10, 4, none⟩ (.int .i64 s1)).setCell ⟨p10, 5, none⟩ (.int .i64 s2)).frozen? ⟨p10, 8, none⟩ = false := blk_frozen h5.k10 8
            have fa0 : (((((w9.alloc (.cells #[.int .i64 s1, .int .i64 s2] 29)).setCell ⟨p10, 4, none⟩ (.int .i64 s1)).setCell ⟨p10, 5, none⟩ (.int .i64 s2)).setCell ⟨p10, 6, none⟩ (.int .i64 c1)).setCell ⟨p10, 7, none⟩ (.int .i64 c2)).cell? ⟨p9, 0, none⟩ = some (.string f0) := blk_cell h7.k9 0
            have fa1 : (((((w9.alloc (.cells #[.int .i64 s1, .int .i64 s2] 29)).setCell ⟨p10, 4, none⟩ (.int .i64 s1)).setCell ⟨p10, 5, none⟩ (.int .i64 s2)).setCell ⟨p10, 6, none⟩ (.int .i64 c1)).setCell ⟨p10, 7, none⟩ (.int .i64 c2)).cell? ⟨p9, 1, none⟩ = some (.int .i64 f1) := blk_cell h7.k9 1
            have fa2 : (((((w9.alloc (.cells #[.int .i64 s1, .int .i64 s2] 29)).setCell ⟨p10, 4, none⟩ (.int .i64 s1)).setCell ⟨p10, 5, none⟩ (.int .i64 s2)).setCell ⟨p10, 6, none⟩ (.int .i64 c1)).setCell ⟨p10, 7, none⟩ (.int .i64 c2)).cell? ⟨p9, 2, none⟩ = some (.string f2) := blk_cell h7.k9 2
            have fa3 : (((((w9.alloc (.cells #[.int .i64 s1, .int .i64 s2] 29)).setCell ⟨p10, 4, none⟩ (.int .i64 s1)).setCell ⟨p10, 5, none⟩ (.int .i64 s2)).setCell ⟨p10, 6, none⟩ (.int .i64 c1)).setCell ⟨p10, 7, none⟩ (.int .i64 c2)).cell? ⟨p9, 3, none⟩ = some (.int .i64 f3) := blk_cell h7.k9 3
            have fa4 : (((((w9.alloc (.cells #[.int .i64 s1, .int .i64 s2] 29)).setCell ⟨p10, 4, none⟩ (.int .i64 s1)).setCell ⟨p10, 5, none⟩ (.int .i64 s2)).setCell ⟨p10, 6, none⟩ (.int .i64 c1)).setCell ⟨p10, 7, none⟩ (.int .i64 c2)).cell? ⟨p9, 4, none⟩ = some (.int .i64 sn) := blk_cell h7.k9 4
            have fa5 : (((((w9.alloc (.cells #[.int .i64 s1, .int .i64 s2] 29)).setCell ⟨p10, 4, none⟩ (.int .i64 s1)).setCell ⟨p10, 5, none⟩ (.int .i64 s2)).setCell ⟨p10, 6, none⟩ (.int .i64 c1)).setCell ⟨p10, 7, none⟩ (.int .i64 c2)).cell? ⟨p9, 5, none⟩ = some (.int .i64 sd) := blk_cell h7.k9 5
            have fa6 : (((((w9.alloc (.cells #[.int .i64 s1, .int .i64 s2] 29)).setCell ⟨p10, 4, none⟩ (.int .i64 s1)).setCell ⟨p10, 5, none⟩ (.int .i64 s2)).setCell ⟨p10, 6, none⟩ (.int .i64 c1)).setCell ⟨p10, 7, none⟩ (.int .i64 c2)).cell? ⟨p9, 6, none⟩ = some (.int .i64 on) := blk_cell h7.k9 6
            have fa7 : (((((w9.alloc (.cells #[.int .i64 s1, .int .i64 s2] 29)).setCell ⟨p10, 4, none⟩ (.int .i64 s1)).setCell ⟨p10, 5, none⟩ (.int .i64 s2)).setCell ⟨p10, 6, none⟩ (.int .i64 c1)).setCell ⟨p10, 7, none⟩ (.int .i64 c2)).cell? ⟨p9, 7, none⟩ = some (.int .i64 od) := blk_cell h7.k9 7
            have fa8 : (((((w9.alloc (.cells #[.int .i64 s1, .int .i64 s2] 29)).setCell ⟨p10, 4, none⟩ (.int .i64 s1)).setCell ⟨p10, 5, none⟩ (.int .i64 s2)).setCell ⟨p10, 6, none⟩ (.int .i64 c1)).setCell ⟨p10, 7, none⟩ (.int .i64 c2)).cell? ⟨p9, 8, none⟩ = some (.string f8) := blk_cell h7.k9 8
            clear hA h4 h5 h6 k15 k17 k15b
            have hA := h7
            clear h7
            go_wp2_with fail
            clear kc0 kc1 g0 g1 n3 n4 y0 yf0 y1 yf1 y2 yf2 y3 yf3 y4 yf4 y5 yf5 y6 yf6 y7 yf7 y8 yf8 x0 xf0 x1 xf1 x2 xf2 x3 xf3 x4 xf4 x5 xf5 x6 xf6 x7 xf7 x8 xf8 fa0 fa1 fa2 fa3 fa4 fa5 fa6 fa7 fa8
            refine (CV.out _).mono ?_
            rintro e w10 ⟨rfl, hb_⟩
            replace hA := (hA.step hb_).step (below_alloc (Below.refl _ _) (.cells #[.int .i64 v1, .int .i64 v2] 29))
            have k19 := blk_new w10 (.cells #[.int .i64 v1, .int .i64 v2] 29)
            clear hb_
            have o0 : (w10.alloc (.cells #[.int .i64 v1, .int .i64 v2] 29)).cell? ⟨p10, 0, none⟩ = some (.string f0) := blk_cell hA.k10 0
            have o1 : (w10.alloc (.cells #[.int .i64 v1, .int .i64 v2] 29)).cell? ⟨p10, 1, none⟩ = some (.int .i64 f1) := blk_cell hA.k10 1
            have o2 : (w10.alloc (.cells #[.int .i64 v1, .int .i64 v2] 29)).cell? ⟨p10, 2, none⟩ = some (.string f2) := blk_cell hA.k10 2
            have o3 : (w10.alloc (.cells #[.int .i64 v1, .int .i64 v2] 29)).cell? ⟨p10, 3, none⟩ = some (.int .i64 f3) := blk_cell hA.k10 3
            have o4 : (w10.alloc (.cells #[.int .i64 v1, .int .i64 v2] 29)).cell? ⟨p10, 4, none⟩ = some (.int .i64 s1) := blk_cell hA.k10 4
            have o5 : (w10.alloc (.cells #[.int .i64 v1, .int .i64 v2] 29)).cell? ⟨p10, 5, none⟩ = some (.int .i64 s2) := blk_cell hA.k10 5
            have o6 : (w10.alloc (.cells #[.int .i64 v1, .int .i64 v2] 29)).cell? ⟨p10, 6, none⟩ = some (.int .i64 c1) := blk_cell hA.k10 6
            have o7 : (w10.alloc (.cells #[.int .i64 v1, .int .i64 v2] 29)).cell? ⟨p10, 7, none⟩ = some (.int .i64 c2) := blk_cell hA.k10 7
            have o8 : (w10.alloc (.cells #[.int .i64 v1, .int .i64 v2] 29)).cell? ⟨p10, 8, none⟩ = some (.string u2) := blk_cell hA.k10 8
            go_wp2_with fail
            clear o0 o1 o2 o3 o4 o5 o6 o7 o8
            refine (CW.out _).mono ?_
            rintro e w11 ⟨rfl, hb_⟩
            replace k19 := blk_below (blk_below k19 hb_) (below_alloc (Below.refl _ _) (.cells #[.int .i64 w1', .int .i64 w2'] 29))
            replace hA := (hA.step hb_).step (below_alloc (Below.refl _ _) (.cells #[.int .i64 w1', .int .i64 w2'] 29))
            have k21 := blk_new w11 (.cells #[.int .i64 w1', .int .i64 w2'] 29)
            clear hb_
            have hF := HF.out
            clear HF CV CW
            unfold Fit at hF
            rcases hF with ⟨rfl, rfl | rfl | rfl | rfl⟩ | ⟨rfl, rfl | rfl | rfl⟩ | ⟨rfl, rfl⟩ | ⟨rfl, rfl⟩ | ⟨rfl, rfl, rfl, rfl⟩
            · have zz := hA.b.be
              go_wp2_with fail
              go_ret
              exact ⟨by simp, zz⟩
            · have zz := hA.b.be
              go_wp2_with fail
              go_ret
              exact ⟨by simp, zz⟩
            · have zz := hA.b.be
              go_wp2_with fail
              go_ret
              exact ⟨by simp, zz⟩
            · have zz := hA.b.be
              go_wp2_with fail
              go_ret
              exact ⟨by simp, zz⟩
            · have zz := hA.b.be
              go_wp2_with fail
              go_ret
              exact ⟨by simp, zz⟩
            · have zz := hA.b.be
              go_wp2_with fail
              go_ret
              exact ⟨by simp, zz⟩
            · have zz := hA.b.be
              go_wp2_with fail
              go_ret
              exact ⟨by simp, zz⟩
            · have zz := hA.b.be
              go_wp2_with fail
              go_ret
              exact ⟨by simp, zz⟩
            · have zz := hA.b.be
              go_wp2_with fail
              go_ret
              exact ⟨by simp, zz⟩
            · have zz := hA.b.be
              have kh0 : (w11.alloc (.cells #[.int .i64 v1, .int .i64 v2] 29)).cell? ⟨w10.heap.size, 0, none⟩ = some (.int .i64 v1) := blk_cell k19 0
              have kh1 : (w11.alloc (.cells #[.int .i64 v1, .int .i64 v2] 29)).cell? ⟨w10.heap.size, 1, none⟩ = some (.int .i64 v2) := blk_cell k19 1
              have ki0 : (w11.alloc (.cells #[.int .i64 v1, .int .i64 v2] 29)).cell? ⟨w11.heap.size, 0, none⟩ = some (.int .i64 v1) := blk_cell k21 0
              have ki1 : (w11.alloc (.cells #[.int .i64 v1, .int .i64 v2] 29)).cell? ⟨w11.heap.size, 1, none⟩ = some (.int .i64 v2) := blk_cell k21 1
              go_wp2_with fail
              go_ret
              exact ⟨by simp, zz⟩
      · subst m1 m2
        have mm : (c3 == 0) = false := by simp [m3]
        go_wp2_with fail
        go_ret
        exact ⟨rfl, hA.b.be⟩
    · subst m1
      have mm : (b3 == 0) = false := by simp [m2]
      go_wp2_with fail
      go_ret
      exact ⟨rfl, hA.b.be⟩
  · skip
    have mm : (a3 == 0) = false := by simp [m1]
    go_wp2_with fail
    go_ret
    exact ⟨rfl, hA.b.be⟩
end Go.Proofs.Ytcldlfhnmkogeaa.ScaleAgainWalk

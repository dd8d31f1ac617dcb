import Derived.Test.YtcldlfhnmkogeaaUnitMore
/- The value of a raw number in another unit (scale.In), walked. -/
set_option linter.unusedVariables false
set_option linter.unusedSimpArgs false
namespace Go.Proofs.Ytcldlfhnmkogeaa.Scale
open Go.RowKit Go.Proofs.YtcldlfhnmkogeaaW.PrintWords Go.Proofs.YtcldlfhnmkogeaaW.PrintLast Go.Proofs.Ytcldlfhnmkogeaa.Nats Go.Proofs.Ytcldlfhnmkogeaa.HeapKit Go.Proofs.Ytcldlfhnmkogeaa.RatPlain Go.Proofs.Ytcldlfhnmkogeaa.Unit Go.Proofs.Ytcldlfhnmkogeaa.RefWalk

theorem value_In {sn sd on od raw : Int} (hraw : I64 raw) : In (valueR sn sd on od raw) := by
  have h0 : I64 0 := by decide
  unfold valueR
  split
  · exact plusW_In (timesW_In ⟨hraw, (by decide : I64 1)⟩)
  · exact ⟨h0, h0⟩
/-- What is answered. -/
def inR (sn sd on od raw : Int) (u tu : ByteArray) : Int × Int × Int := if (valueR sn sd on od raw).2.2 = 0 then convR u tu (valueR sn sd on od raw).1 (valueR sn sd on od raw).2.1 else (0, 0, (valueR sn sd on od raw).2.2)

set_option maxRecDepth 100000 in
set_option maxHeartbeats 4000000 in
theorem in_calls (f0 : ByteArray) (f1 : Int) (f2 : ByteArray) (f3 sn sd on od : Int) (f8 : ByteArray) (raw : Int) (tu : ByteArray) (hsn : I64 sn) (hsd : I64 sd) (hon : I64 on) (hod : I64 od) (hraw : I64 raw) (w : World) :
    Calls Try.prog 43 #[.agg #[.string f0, .int .i64 f1, .string f2, .int .i64 f3, .int .i64 sn, .int .i64 sd, .int .i64 on, .int .i64 od, .string f8], .int .i64 raw, .string tu] w fun e w' => e = ans (inR sn sd on od raw f8 tu) ∧ Below w.heap.size w w' := by
  have hv := fun w => value_calls f0 f1 f2 f3 sn sd on od f8 raw hsn hsd hon hod hraw w
  have hIn := value_In (sn := sn) (sd := sd) (on := on) (od := od) hraw
  obtain ⟨⟨v1, v2, v3⟩, hr⟩ : ∃ r, valueR sn sd on od raw = r := ⟨_, rfl⟩
  simp only [hr, ans] at hv
  rw [hr] at hIn
  obtain ⟨⟨c1, c2, c3⟩, hc⟩ : ∃ r, convR f8 tu v1 v2 = r := ⟨_, rfl⟩
  have hcv := fun w => conv_calls hIn.1 hIn.2 f8 tu w
  simp only [hc, ans] at hcv
  have hres : inR sn sd on od raw f8 tu = if v3 = 0 then (c1, c2, c3) else (0, 0, v3) := by
    unfold inR
    rw [hr]
    dsimp only
    rw [hc]
  have HV := Lib.hid hv
  have HC := Lib.hid hcv
  have HR := Lib.hid hres
  clear hv hcv hres hr hc hIn
  have hB := b2_start w (.cells #[.string f0, .int .i64 f1, .string f2, .int .i64 f3, .int .i64 sn, .int .i64 sd, .int .i64 on, .int .i64 od, .string f8] 34) (.cells #[.int .i64 0, .int .i64 0] 29)
  have a0 : ((w.alloc (.cells #[.string f0, .int .i64 f1, .string f2, .int .i64 f3, .int .i64 sn, .int .i64 sd, .int .i64 on, .int .i64 od, .string f8] 34)).alloc (.cells #[.int .i64 0, .int .i64 0] 29)).cell? ⟨w.heap.size, 0, none⟩ = some (.string f0) := blk_cell hB.b1 0
  have a1 : ((w.alloc (.cells #[.string f0, .int .i64 f1, .string f2, .int .i64 f3, .int .i64 sn, .int .i64 sd, .int .i64 on, .int .i64 od, .string f8] 34)).alloc (.cells #[.int .i64 0, .int .i64 0] 29)).cell? ⟨w.heap.size, 1, none⟩ = some (.int .i64 f1) := blk_cell hB.b1 1
  have a2 : ((w.alloc (.cells #[.string f0, .int .i64 f1, .string f2, .int .i64 f3, .int .i64 sn, .int .i64 sd, .int .i64 on, .int .i64 od, .string f8] 34)).alloc (.cells #[.int .i64 0, .int .i64 0] 29)).cell? ⟨w.heap.size, 2, none⟩ = some (.string f2) := blk_cell hB.b1 2
  have a3 : ((w.alloc (.cells #[.string f0, .int .i64 f1, .string f2, .int .i64 f3, .int .i64 sn, .int .i64 sd, .int .i64 on, .int .i64 od, .string f8] 34)).alloc (.cells #[.int .i64 0, .int .i64 0] 29)).cell? ⟨w.heap.size, 3, none⟩ = some (.int .i64 f3) := blk_cell hB.b1 3
  have a4 : ((w.alloc (.cells #[.string f0, .int .i64 f1, .string f2, .int .i64 f3, .int .i64 sn, .int .i64 sd, .int .i64 on, .int .i64 od, .string f8] 34)).alloc (.cells #[.int .i64 0, .int .i64 0] 29)).cell? ⟨w.heap.size, 4, none⟩ = some (.int .i64 sn) := blk_cell hB.b1 4
  have a5 : ((w.alloc (.cells #[.string f0, .int .i64 f1, .string f2, .int .i64 f3, .int .i64 sn, .int .i64 sd, .int .i64 on, .int .i64 od, .string f8] 34)).alloc (.cells #[.int .i64 0, .int .i64 0] 29)).cell? ⟨w.heap.size, 5, none⟩ = some (.int .i64 sd) := blk_cell hB.b1 5
  have a6 : ((w.alloc (.cells #[.string f0, .int .i64 f1, .string f2, .int .i64 f3, .int .i64 sn, .int .i64 sd, .int .i64 on, .int .i64 od, .string f8] 34)).alloc (.cells #[.int .i64 0, .int .i64 0] 29)).cell? ⟨w.heap.size, 6, none⟩ = some (.int .i64 on) := blk_cell hB.b1 6
  have a7 : ((w.alloc (.cells #[.string f0, .int .i64 f1, .string f2, .int .i64 f3, .int .i64 sn, .int .i64 sd, .int .i64 on, .int .i64 od, .string f8] 34)).alloc (.cells #[.int .i64 0, .int .i64 0] 29)).cell? ⟨w.heap.size, 7, none⟩ = some (.int .i64 od) := blk_cell hB.b1 7
  have a8 : ((w.alloc (.cells #[.string f0, .int .i64 f1, .string f2, .int .i64 f3, .int .i64 sn, .int .i64 sd, .int .i64 on, .int .i64 od, .string f8] 34)).alloc (.cells #[.int .i64 0, .int .i64 0] 29)).cell? ⟨w.heap.size, 8, none⟩ = some (.string f8) := blk_cell hB.b1 8
  go_enter Try.func43, Try.ntmps43
  go_wp2_with fail
  refine (HV.out _).mono ?_
  rintro e w1 ⟨rfl, hb1⟩
  clear a0 a1 a2 a3 a4 a5 a6 a7 a8
  replace hB := (hB.step hb1).step (below_alloc (Below.refl _ _) (.cells #[.int .i64 v1, .int .i64 v2] 29))
  have kx := blk_new w1 (.cells #[.int .i64 v1, .int .i64 v2] 29)
  clear hb1
  by_cases n : v3 = 0
  · have hz := HR.out
    rw [if_pos n] at hz
    have HZ := Lib.hid hz
    subst n
    clear hz HR
    have a0 : (w1.alloc (.cells #[.int .i64 v1, .int .i64 v2] 29)).cell? ⟨w.heap.size, 0, none⟩ = some (.string f0) := blk_cell hB.b1 0
    have a1 : (w1.alloc (.cells #[.int .i64 v1, .int .i64 v2] 29)).cell? ⟨w.heap.size, 1, none⟩ = some (.int .i64 f1) := blk_cell hB.b1 1
    have a2 : (w1.alloc (.cells #[.int .i64 v1, .int .i64 v2] 29)).cell? ⟨w.heap.size, 2, none⟩ = some (.string f2) := blk_cell hB.b1 2
    have a3 : (w1.alloc (.cells #[.int .i64 v1, .int .i64 v2] 29)).cell? ⟨w.heap.size, 3, none⟩ = some (.int .i64 f3) := blk_cell hB.b1 3
    have a4 : (w1.alloc (.cells #[.int .i64 v1, .int .i64 v2] 29)).cell? ⟨w.heap.size, 4, none⟩ = some (.int .i64 sn) := blk_cell hB.b1 4
    have a5 : (w1.alloc (.cells #[.int .i64 v1, .int .i64 v2] 29)).cell? ⟨w.heap.size, 5, none⟩ = some (.int .i64 sd) := blk_cell hB.b1 5
    have a6 : (w1.alloc (.cells #[.int .i64 v1, .int .i64 v2] 29)).cell? ⟨w.heap.size, 6, none⟩ = some (.int .i64 on) := blk_cell hB.b1 6
    have a7 : (w1.alloc (.cells #[.int .i64 v1, .int .i64 v2] 29)).cell? ⟨w.heap.size, 7, none⟩ = some (.int .i64 od) := blk_cell hB.b1 7
    have a8 : (w1.alloc (.cells #[.int .i64 v1, .int .i64 v2] 29)).cell? ⟨w.heap.size, 8, none⟩ = some (.string f8) := blk_cell hB.b1 8
    have b0 : (w1.alloc (.cells #[.int .i64 v1, .int .i64 v2] 29)).cell? ⟨w1.heap.size, 0, none⟩ = some (.int .i64 v1) := blk_cell kx 0
    have b1 : (w1.alloc (.cells #[.int .i64 v1, .int .i64 v2] 29)).cell? ⟨w1.heap.size, 1, none⟩ = some (.int .i64 v2) := blk_cell kx 1
    go_wp2_with fail
    refine (HC.out _).mono ?_
    rintro e w2 ⟨rfl, hb2⟩
    replace hB := hB.step hb2
    clear hb2 kx a0 a1 a2 a3 a4 a5 a6 a7 a8 b0 b1
    have hx_ := hB.b2
    have d_0 : w2.cell? ⟨w.heap.size + 1, 0, none⟩ = some (.int .i64 0) := blk_cell hx_ 0
    have df_0 : w2.frozen? ⟨w.heap.size + 1, 0, none⟩ = false := blk_frozen hx_ 0
    have d_1 : w2.cell? ⟨w.heap.size + 1, 1, none⟩ = some (.int .i64 0) := blk_cell hx_ 1
    have df_1 : w2.frozen? ⟨w.heap.size + 1, 1, none⟩ = false := blk_frozen hx_ 1
    go_wp2_with fail
    have k_ := (blk_set (blk_set hx_ 0 (.int .i64 c1)) 1 (.int .i64 c2))
    have hB_ := (Below.setCell (Below.setCell hB.be (p := ⟨w.heap.size + 1, 0, none⟩) ((by show w.heap.size ≤ w.heap.size + 1; omega)) (.int .i64 c1)) (p := ⟨w.heap.size + 1, 1, none⟩) ((by show w.heap.size ≤ w.heap.size + 1; omega)) (.int .i64 c2))
    obtain ⟨w_, hw_⟩ : ∃ w_, w_ = (World.setCell (World.setCell w2 ⟨w.heap.size + 1, 0, none⟩ (.int .i64 c1)) ⟨w.heap.size + 1, 1, none⟩ (.int .i64 c2)) := ⟨_, rfl⟩
    rw [← hw_] at k_ hB_
    try rw [← hw_]
    clear hw_
    have s_0 : w_.cell? ⟨w.heap.size + 1, 0, none⟩ = some (.int .i64 c1) := blk_cell k_ 0
    have s_1 : w_.cell? ⟨w.heap.size + 1, 1, none⟩ = some (.int .i64 c2) := blk_cell k_ 1
    refine bodyPost_ret (by simp [results, Try.results43, go_sem, s_0, s_1]; try rfl) rfl ?_
    rw [HZ.out]
    exact ⟨rfl, hB_⟩
  · have m : (v3 == 0) = false := by simp [n]
    have hz := HR.out
    rw [if_neg n] at hz
    have HZ := Lib.hid hz
    clear hz HR n
    have hx_ := hB.b2
    have d_0 : (w1.alloc (.cells #[.int .i64 v1, .int .i64 v2] 29)).cell? ⟨w.heap.size + 1, 0, none⟩ = some (.int .i64 0) := blk_cell hx_ 0
    have df_0 : (w1.alloc (.cells #[.int .i64 v1, .int .i64 v2] 29)).frozen? ⟨w.heap.size + 1, 0, none⟩ = false := blk_frozen hx_ 0
    have d_1 : (w1.alloc (.cells #[.int .i64 v1, .int .i64 v2] 29)).cell? ⟨w.heap.size + 1, 1, none⟩ = some (.int .i64 0) := blk_cell hx_ 1
    have df_1 : (w1.alloc (.cells #[.int .i64 v1, .int .i64 v2] 29)).frozen? ⟨w.heap.size + 1, 1, none⟩ = false := blk_frozen hx_ 1
    go_wp2_with fail
    have k_ := (blk_set (blk_set hx_ 0 (.int .i64 0)) 1 (.int .i64 0))
    have hB_ := (Below.setCell (Below.setCell hB.be (p := ⟨w.heap.size + 1, 0, none⟩) ((by show w.heap.size ≤ w.heap.size + 1; omega)) (.int .i64 0)) (p := ⟨w.heap.size + 1, 1, none⟩) ((by show w.heap.size ≤ w.heap.size + 1; omega)) (.int .i64 0))
    obtain ⟨w_, hw_⟩ : ∃ w_, w_ = (World.setCell (World.setCell (w1.alloc (.cells #[.int .i64 v1, .int .i64 v2] 29)) ⟨w.heap.size + 1, 0, none⟩ (.int .i64 0)) ⟨w.heap.size + 1, 1, none⟩ (.int .i64 0)) := ⟨_, rfl⟩
    rw [← hw_] at k_ hB_
    try rw [← hw_]
    clear hw_
    have s_0 : w_.cell? ⟨w.heap.size + 1, 0, none⟩ = some (.int .i64 0) := blk_cell k_ 0
    have s_1 : w_.cell? ⟨w.heap.size + 1, 1, none⟩ = some (.int .i64 0) := blk_cell k_ 1
    refine bodyPost_ret (by simp [results, Try.results43, go_sem, s_0, s_1]; try rfl) rfl ?_
    rw [HZ.out]
    exact ⟨rfl, hB_⟩
end Go.Proofs.Ytcldlfhnmkogeaa.Scale

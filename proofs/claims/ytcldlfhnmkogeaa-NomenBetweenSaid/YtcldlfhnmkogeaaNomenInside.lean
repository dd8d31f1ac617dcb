import Derived.Test.YtcldlfhnmkogeaaTermLaw
import Derived.Test.YtcldlfhnmkogeaaNomRat
/- nomen.Inside, walked: whether a value lies between a term's least and its most. -/
set_option linter.unusedVariables false
set_option linter.unusedSimpArgs false
namespace Go.Proofs.Ytcldlfhnmkogeaa.Term
open Go.RowKit Go.Proofs.YtcldlfhnmkogeaaW.PrintWords Go.Proofs.YtcldlfhnmkogeaaW.PrintLast Go.Proofs.Ytcldlfhnmkogeaa.Nats Go.Proofs.Ytcldlfhnmkogeaa.HeapKit Go.Proofs.Ytcldlfhnmkogeaa.RatPlain

/-- A value that is right, not below the least and not above the most. -/
def insideR (u : TRow) (n d : Int) : Bool := (decide (Rt n d) && !decide ((Rt n d ∧ Rt u.ln u.ld) ∧ n * u.ld < u.ln * d)) && !decide ((Rt u.mn u.md ∧ Rt n d) ∧ u.mn * d < n * u.md)
set_option maxRecDepth 100000 in
set_option maxHeartbeats 4000000 in
theorem inside_calls (u : TRow) {n d : Int} (hn : I64 n) (hd : I64 d) (h1 : I64 u.ln) (h2 : I64 u.ld) (h3 : I64 u.mn) (h4 : I64 u.md) (w : World) :
    Calls Try.prog 48 #[.agg #[.string u.label, .int .i64 u.code, .string u.unit, .int .i64 u.ln, .int .i64 u.ld, .int .i64 u.mn, .int .i64 u.md], .agg #[.int .i64 n, .int .i64 d]] w fun e w' => e = .returned (.bool (insideR u n d)) ∧ Below w.heap.size w w' := by
  have hr := fun w => Scale.right_calls hn hd w
  have hl := fun w => less_calls hn hd h1 h2 w
  have hm := fun w => less_calls h3 h4 hn hd w
  unfold insideR
  obtain ⟨r1, e1⟩ : ∃ r, decide (Rt n d) = r := ⟨_, rfl⟩
  obtain ⟨r2, e2⟩ : ∃ r, decide ((Rt n d ∧ Rt u.ln u.ld) ∧ n * u.ld < u.ln * d) = r := ⟨_, rfl⟩
  obtain ⟨r3, e3⟩ : ∃ r, decide ((Rt u.mn u.md ∧ Rt n d) ∧ u.mn * d < n * u.md) = r := ⟨_, rfl⟩
  simp only [e1] at hr
  simp only [e2] at hl
  simp only [e3] at hm
  rw [e1, e2, e3]
  clear e1 e2 e3
  have HR := Lib.hid hr
  have HL := Lib.hid hl
  have HM := Lib.hid hm
  clear hr hl hm
  have hB := b2_start w (.cells #[.string u.label, .int .i64 u.code, .string u.unit, .int .i64 u.ln, .int .i64 u.ld, .int .i64 u.mn, .int .i64 u.md] 57) (.cells #[.int .i64 n, .int .i64 d] 29)
  go_enter Try.func48, Try.ntmps48
  go_wp2_with fail
  refine (HR.out _).mono ?_
  rintro e w1 ⟨rfl, hb1⟩
  replace hB := hB.step hb1
  clear hb1
  have a0 : w1.cell? ⟨w.heap.size, 0, none⟩ = some (.string u.label) := blk_cell hB.b1 0
  have a1 : w1.cell? ⟨w.heap.size, 1, none⟩ = some (.int .i64 u.code) := blk_cell hB.b1 1
  have a2 : w1.cell? ⟨w.heap.size, 2, none⟩ = some (.string u.unit) := blk_cell hB.b1 2
  have a3 : w1.cell? ⟨w.heap.size, 3, none⟩ = some (.int .i64 u.ln) := blk_cell hB.b1 3
  have a4 : w1.cell? ⟨w.heap.size, 4, none⟩ = some (.int .i64 u.ld) := blk_cell hB.b1 4
  have a5 : w1.cell? ⟨w.heap.size, 5, none⟩ = some (.int .i64 u.mn) := blk_cell hB.b1 5
  have a6 : w1.cell? ⟨w.heap.size, 6, none⟩ = some (.int .i64 u.md) := blk_cell hB.b1 6
  have av0 : w1.cell? ⟨(w.heap.size + 1), 0, none⟩ = some (.int .i64 n) := blk_cell hB.b2 0
  have av1 : w1.cell? ⟨(w.heap.size + 1), 1, none⟩ = some (.int .i64 d) := blk_cell hB.b2 1
  cases r1 with
  | false =>
    go_wp2_with fail
    go_ret
    exact ⟨by simp, hB.be⟩
  | true =>
    go_wp2_with fail
    refine (HL.out _).mono ?_
    rintro e w2 ⟨rfl, hb2⟩
    replace hB := hB.step hb2
    clear hb2
    have b0 : w2.cell? ⟨w.heap.size, 0, none⟩ = some (.string u.label) := blk_cell hB.b1 0
    have b1 : w2.cell? ⟨w.heap.size, 1, none⟩ = some (.int .i64 u.code) := blk_cell hB.b1 1
    have b2 : w2.cell? ⟨w.heap.size, 2, none⟩ = some (.string u.unit) := blk_cell hB.b1 2
    have b3 : w2.cell? ⟨w.heap.size, 3, none⟩ = some (.int .i64 u.ln) := blk_cell hB.b1 3
    have b4 : w2.cell? ⟨w.heap.size, 4, none⟩ = some (.int .i64 u.ld) := blk_cell hB.b1 4
    have b5 : w2.cell? ⟨w.heap.size, 5, none⟩ = some (.int .i64 u.mn) := blk_cell hB.b1 5
    have b6 : w2.cell? ⟨w.heap.size, 6, none⟩ = some (.int .i64 u.md) := blk_cell hB.b1 6
    have bv0 : w2.cell? ⟨(w.heap.size + 1), 0, none⟩ = some (.int .i64 n) := blk_cell hB.b2 0
    have bv1 : w2.cell? ⟨(w.heap.size + 1), 1, none⟩ = some (.int .i64 d) := blk_cell hB.b2 1
    cases r2 with
    | true =>
      go_wp2_with fail
      go_ret
      exact ⟨by simp, hB.be⟩
    | false =>
      go_wp2_with fail
      refine (HM.out _).mono ?_
      rintro e w3 ⟨rfl, hb3⟩
      replace hB := hB.step hb3
      clear hb3
      go_wp2_with fail
      go_ret
      exact ⟨by simp, hB.be⟩
end Go.Proofs.Ytcldlfhnmkogeaa.Term

import Derived.Test.YtcldlfhnmkogeaaUnitSteps
import Derived.DeepKeys
/- Arrays of four numbers, compared. -/
set_option linter.unusedVariables false
set_option linter.unusedSimpArgs false
namespace Go.Proofs.Ytcldlfhnmkogeaa.Unit
open Go.RowKit Go.Proofs.Ytcldlfhnmkogeaa.RatPlain
theorem wf_i64 {n : Int} (h : I64 n) : (Lit.int .i64 n).wf = true := by
  unfold I64 at h
  simp [Lit.wf, IntKind.min, IntKind.max, IntKind.signed, IntKind.bits]
  omega
theorem lits4 {a b c d : Int} (ha : I64 a) (hb : I64 b) (hc : I64 c) (hd : I64 d) : Try.prog.keyLits 3 46 [.int .i64 a, .int .i64 b, .int .i64 c, .int .i64 d] = some [.int .i64 a, .int .i64 b, .int .i64 c, .int .i64 d] := by
  have e1 : Try.prog.cellsOf 46 = 4 := by kernel_rfl
  have e2 : Try.prog.cellsOf 3 = 1 := by kernel_rfl
  have one : ∀ n : Int, I64 n → Try.prog.keyLits 2 3 [.int .i64 n] = some [.int .i64 n] := by
    intro n h
    unfold Program.keyLits
    simp only [Try.underlying3]
    simp [wf_i64 h]
  unfold Program.keyLits
  simp only [Try.underlying46, e1, e2]
  rw [if_pos (show [Value.int IntKind.i64 a, Value.int IntKind.i64 b, Value.int IntKind.i64 c, Value.int IntKind.i64 d].length = 4 from rfl)]
  have hr : List.range 4 = [0, 1, 2, 3] := rfl
  rw [hr]
  simp [one a ha, one b hb, one c hc, one d hd]
set_option maxRecDepth 100000 in
theorem eq4 {x0 x1 x2 x3 y0 y1 y2 y3 : Int} (a0 : I64 x0) (a1 : I64 x1) (a2 : I64 x2) (a3 : I64 x3) (b0 : I64 y0) (b1 : I64 y1) (b2 : I64 y2) (b3 : I64 y3) :
    ∀ w, (Op.equalIn 10000 46 (.agg #[.int .i64 x0, .int .i64 x1, .int .i64 x2, .int .i64 x3]) (.agg #[.int .i64 y0, .int .i64 y1, .int .i64 y2, .int .i64 y3])).run Try.prog w = .ok (decide (x0 = y0 ∧ x1 = y1 ∧ x2 = y2 ∧ x3 = y3)) w := by
  intro w
  obtain ⟨r, h1, h2⟩ := run_equalIn_deep (P := Try.prog) 9998 2 46 (by kernel_rfl) w 3 3 (.agg #[.int .i64 x0, .int .i64 x1, .int .i64 x2, .int .i64 x3]) (.agg #[.int .i64 y0, .int .i64 y1, .int .i64 y2, .int .i64 y3]) _ _ (by kernel_rfl) (by kernel_rfl) (lits4 a0 a1 a2 a3) (lits4 b0 b1 b2 b3)
  rw [h1]
  congr 1
  rw [Bool.eq_iff_iff, h2]
  simp
end Go.Proofs.Ytcldlfhnmkogeaa.Unit

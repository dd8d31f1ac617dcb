import Derived.Test.YtcldlfhnmkogeaaUnitFacts
import Derived.Test.YtcldlfhnmkogeaaRatRef
import Derived.Test.YtcldlfhnmkogeaaPOfx1
/- What the laws of layer 3 share. -/
set_option linter.unusedVariables false
set_option linter.unusedSimpArgs false
namespace Go.Proofs.Ytcldlfhnmkogeaa.UnitLaw
open Go.RowKit Go.Proofs.YtcldlfhnmkogeaaW.PrintWords Go.Proofs.YtcldlfhnmkogeaaW.PrintLast Go.Proofs.Ytcldlfhnmkogeaa.Nats Go.Proofs.Ytcldlfhnmkogeaa.HeapKit Go.Proofs.Ytcldlfhnmkogeaa.RatPlain Go.Proofs.Ytcldlfhnmkogeaa.Scale Go.Proofs.Ytcldlfhnmkogeaa.Unit

theorem of02_calls (n d : Int) (w : World) : Calls Try.prog 25 #[.agg #[.int .i64 n, .int .i64 d]] w fun e w' => e = .returned (.agg #[.int .i64 n, .int .i64 d]) ∧ Below w.heap.size w w' :=
  POf.lancetlaw02_Of.calls _ _ _ _ w rfl
set_option maxRecDepth 100000 in
set_option maxHeartbeats 4000000 in
theorem awake_calls (w : World) : Calls Try.prog 28 #[] w fun e w' => e = .returned (.bool true) ∧ Below w.heap.size w w' := by
  have hv := fun w => conv_calls (vn := 212) (vd := 1) (by decide) (by decide) ⟨#[102]⟩ ⟨#[99]⟩ w
  simp only [awake_conv, ans] at hv
  have HV := Lib.hid hv
  clear hv
  go_enter Try.func28, Try.ntmps28
  go_wp2_with fail
  refine (HV.out _).mono ?_
  rintro e w1 ⟨rfl, hb1⟩
  have hB2 := bthen hb1 (below_alloc (Below.refl _ _) (.cells #[.int .i64 100, .int .i64 1] 29))
  have kx := blk_new w1 (.cells #[.int .i64 100, .int .i64 1] 29)
  have c0 : (w1.alloc (.cells #[.int .i64 100, .int .i64 1] 29)).cell? ⟨w1.heap.size, 0, none⟩ = some (.int .i64 100) := blk_cell kx 0
  have c1 : (w1.alloc (.cells #[.int .i64 100, .int .i64 1] 29)).cell? ⟨w1.heap.size, 1, none⟩ = some (.int .i64 1) := blk_cell kx 1
  go_wp2_with fail
  go_ret
  exact ⟨rfl, hB2⟩
/-- A conversion's answer, given. -/
theorem conv_as {a b : ByteArray} {vn vd r1 r2 r3 : Int} (h1 : I64 vn) (h2 : I64 vd) (h : convR a b vn vd = (r1, r2, r3)) : (∀ w, Calls Try.prog 29 #[.agg #[.int .i64 vn, .int .i64 vd], .string a, .string b] w fun e w' => e = .returned (.tuple #[.agg #[.int .i64 r1, .int .i64 r2], .int .i64 r3]) ∧ Below w.heap.size w w') ∧ I64 r1 ∧ I64 r2 := by
  have hi := conv_In (a := a) (b := b) h1 h2
  have hc := fun w => conv_calls h1 h2 a b w
  rw [h] at hi
  simp only [h, ans] at hc
  exact ⟨hc, hi.1, hi.2⟩
theorem conv_ex {a b : ByteArray} {vn vd : Int} (h1 : I64 vn) (h2 : I64 vd) : ∃ r1 r2 r3, convR a b vn vd = (r1, r2, r3) ∧ (∀ w, Calls Try.prog 29 #[.agg #[.int .i64 vn, .int .i64 vd], .string a, .string b] w fun e w' => e = .returned (.tuple #[.agg #[.int .i64 r1, .int .i64 r2], .int .i64 r3]) ∧ Below w.heap.size w w') ∧ I64 r1 ∧ I64 r2 :=
  ⟨_, _, _, rfl, conv_as h1 h2 rfl⟩
end Go.Proofs.Ytcldlfhnmkogeaa.UnitLaw

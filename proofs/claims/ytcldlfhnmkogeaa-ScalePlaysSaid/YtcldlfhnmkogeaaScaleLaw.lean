import Derived.Test.YtcldlfhnmkogeaaScaleMore
import Derived.Test.YtcldlfhnmkogeaaPFewx1
import Derived.Test.YtcldlfhnmkogeaaPOfx1
import Derived.Test.YtcldlfhnmkogeaaPPlainx1
/- What the laws of layer 19 share: awake, Few, Of. -/
set_option linter.unusedVariables false
set_option linter.unusedSimpArgs false
namespace Go.Proofs.Ytcldlfhnmkogeaa.Scale
open Go.RowKit Go.Proofs.YtcldlfhnmkogeaaW.PrintWords Go.Proofs.YtcldlfhnmkogeaaW.PrintLast Go.Proofs.Ytcldlfhnmkogeaa.Nats Go.Proofs.Ytcldlfhnmkogeaa.HeapKit Go.Proofs.Ytcldlfhnmkogeaa.RatPlain
theorem few_calls (f0 : ByteArray) (f1 : Int) (f2 : ByteArray) (f3 sn sd on od : Int) (f8 : ByteArray) (w : World) : Calls Try.prog 20 #[.agg #[.string f0, .int .i64 f1, .string f2, .int .i64 f3, .int .i64 sn, .int .i64 sd, .int .i64 on, .int .i64 od, .string f8]] w fun e w' => (e = .returned (.int .i64 0) ∨ e = .returned (.int .i64 1)) ∧ Below w.heap.size w w' := by
  obtain ⟨r, hr, h⟩ : ∃ r, PFew.lancetlaw19_Few.f f0 f1 f2 f3 sn sd on od f8 = some r ∧ (r = 0 ∨ r = 1) := by
    unfold PFew.lancetlaw19_Few.f
    split
    · exact ⟨_, rfl, .inl rfl⟩
    · split
      · exact ⟨_, rfl, .inl rfl⟩
      · split
        · exact ⟨_, rfl, .inl rfl⟩
        · exact ⟨_, rfl, .inr rfl⟩
  refine (PFew.lancetlaw19_Few.calls _ _ _ _ _ _ _ _ _ r w hr).mono ?_
  rintro e w' ⟨rfl, hb⟩
  rcases h with rfl | rfl
  · exact ⟨.inl rfl, hb⟩
  · exact ⟨.inr rfl, hb⟩
theorem of_calls (f0 : ByteArray) (f1 : Int) (f2 : ByteArray) (f3 sn sd on od : Int) (f8 : ByteArray) (w : World) : Calls Try.prog 23 #[.agg #[.string f0, .int .i64 f1, .string f2, .int .i64 f3, .int .i64 sn, .int .i64 sd, .int .i64 on, .int .i64 od, .string f8]] w fun e w' => e = .returned (.agg #[.string f0, .int .i64 f1, .string f2, .int .i64 f3, .int .i64 sn, .int .i64 sd, .int .i64 on, .int .i64 od, .string f8]) ∧ Below w.heap.size w w' :=
  POf.lancetlaw19_Of.calls _ _ _ _ _ _ _ _ _ _ _ _ _ _ _ _ _ _ w rfl
theorem of02_calls (n d : Int) (w : World) : Calls Try.prog 25 #[.agg #[.int .i64 n, .int .i64 d]] w fun e w' => e = .returned (.agg #[.int .i64 n, .int .i64 d]) ∧ Below w.heap.size w w' :=
  POf.lancetlaw02_Of.calls _ _ _ _ w rfl
theorem plain_calls (n d : Int) (w : World) : Calls Try.prog 32 #[.agg #[.int .i64 n, .int .i64 d]] w fun e w' => e = .returned (.agg #[.int .i64 n, .int .i64 d]) ∧ Below w.heap.size w w' :=
  PPlain.lancetlaw02_Plain.calls _ _ _ _ w rfl
theorem awake_value : valueR 1 10 (-40) 1 765 = (73, 2, 0) := by decide +kernel

set_option maxRecDepth 100000 in
set_option maxHeartbeats 4000000 in
theorem awake_calls (w : World) : Calls Try.prog 19 #[] w fun e w' => e = .returned (.bool true) ∧ Below w.heap.size w w' := by
  have hv := fun w => value_calls ⟨#[]⟩ 0 ⟨#[]⟩ 0 1 10 (-40) 1 ⟨#[]⟩ 765 (by decide) (by decide) (by decide) (by decide) (by decide) w
  simp only [awake_value, ans] at hv
  have HV := Lib.hid hv
  clear hv
  go_enter Try.func19, Try.ntmps19
  go_wp2_with fail
  refine (HV.out _).mono ?_
  rintro e w1 ⟨rfl, hb1⟩
  have hB2 := bthen hb1 (below_alloc (Below.refl _ _) (.cells #[.int .i64 73, .int .i64 2] 29))
  have kx := blk_new w1 (.cells #[.int .i64 73, .int .i64 2] 29)
  have c0 : (w1.alloc (.cells #[.int .i64 73, .int .i64 2] 29)).cell? ⟨w1.heap.size, 0, none⟩ = some (.int .i64 73) := blk_cell kx 0
  have c1 : (w1.alloc (.cells #[.int .i64 73, .int .i64 2] 29)).cell? ⟨w1.heap.size, 1, none⟩ = some (.int .i64 2) := blk_cell kx 1
  go_wp2_with fail
  go_ret
  exact ⟨rfl, hB2⟩
end Go.Proofs.Ytcldlfhnmkogeaa.Scale

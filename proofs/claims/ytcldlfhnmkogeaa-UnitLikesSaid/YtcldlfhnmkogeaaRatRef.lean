import Derived.Test.YtcldlfhnmkogeaaRatPlain
import Derived.Test.YtcldlfhnmkogeaaPRawx1
/- The document's whole numbers (lancetref01) and whether a fraction is right (lancetref02), in plain Lean. -/
set_option linter.unusedVariables false
set_option linter.unusedSimpArgs false
namespace Go.Proofs.Ytcldlfhnmkogeaa.RatPlain
open Go.RowKit Go.Proofs.YtcldlfhnmkogeaaW.PrintWords

theorem ref_size {a : Int} (h : I64 a) : PRaw.lancetref01_Size.f a = some (a.natAbs : Int) := by
  unfold I64 at h
  unfold PRaw.lancetref01_Size.f
  by_cases h0 : a < 0
  · rw [if_pos h0, wrap_in (x := a + 1) (by unfold I64; omega), wrap_in (x := -(a + 1)) (by unfold I64; omega), u64_wrap, u64_wrap]
    congr 1
    omega
  · rw [if_neg h0, u64_wrap]
    congr 1
    omega
theorem ref_loop : ∀ (k y x : Nat), y < k → PRaw.lancetref01_Gcd.l0 k (x : Int) (y : Int) = some ((Nat.gcd x y : Nat) : Int) := by
  intro k
  induction k with
  | zero => intro y x h; omega
  | succ k ih =>
    intro y x h
    unfold PRaw.lancetref01_Gcd.l0
    by_cases hy : y = 0
    · subst hy
      rw [if_neg (by simp), Nat.gcd_zero_right]
    · have h1 : (y : Int) > 0 := by omega
      have h2 : ¬ (y : Int) = 0 := by omega
      have h3 : Int.tmod (x : Int) (y : Int) = ((x % y : Nat) : Int) := by rw [Int.tmod_eq_emod_of_nonneg (by omega)]; rfl
      have h4 : x % y < y := Nat.mod_lt _ (by omega)
      rw [if_pos h1, if_neg h2, h3, ih (x % y) y (by omega)]
      have h5 : Nat.gcd y (x % y) = Nat.gcd x y := by rw [Nat.gcd_comm, ← Nat.gcd_rec, Nat.gcd_comm]
      rw [h5]
theorem ref_gcd {a b : Int} (hb : I64 b) {k : Nat} (hk : big < k) : PRaw.lancetref01_Gcd.f k (a.natAbs : Int) (b.natAbs : Int) = some ((Int.gcd a b : Nat) : Int) := by
  unfold PRaw.lancetref01_Gcd.f
  unfold I64 at hb
  unfold big at hk
  rw [ref_loop k b.natAbs a.natAbs (by omega)]
  rfl
theorem ref_right {n d : Int} (hn : I64 n) (hd : I64 d) {k : Nat} (hk : big < k) : PRaw.lancetref02_Right.f k n d = some (decide (Rt n d)) := by
  unfold PRaw.lancetref02_Right.f
  by_cases h0 : d > 0
  · rw [if_pos h0, ref_size hn, ref_size hd]
    simp only [Option.bind_some]
    rw [ref_gcd hd hk]
    have e : decide (Rt n d) = (((Int.gcd n d : Nat) : Int) == 1) := by
      rw [Bool.eq_iff_iff]
      simp [Rt, h0]
      omega
    rw [e]
    rfl
  · rw [if_neg h0, decide_eq_false (fun h => h0 h.1)]
theorem ref_right_calls {n d : Int} (hn : I64 n) (hd : I64 d) (w : World) : Calls Try.prog 21 #[.agg #[.int .i64 n, .int .i64 d]] w fun e w' => e = .returned (.bool (decide (Rt n d))) ∧ Below w.heap.size w w' :=
  PRaw.lancetref02_Right.calls (big + 1) n d _ w (ref_right hn hd (by omega))
end Go.Proofs.Ytcldlfhnmkogeaa.RatPlain

import Derived.Test.YtcldlfhnmkogeaaRatPlain
import Derived.Test.YtcldlfhnmkogeaaPLessx1
import Derived.Test.YtcldlfhnmkogeaaHeapKit
import Derived.Laws.Bits64b
/- Words of 64 bits, in plain Lean. -/
set_option linter.unusedVariables false
set_option linter.unusedSimpArgs false
namespace Go.Proofs.Ytcldlfhnmkogeaa.RatPlain
open Go.RowKit Go.Proofs.YtcldlfhnmkogeaaW.PrintWords

theorem low32 {a : Int} (h0 : 0 ≤ a) (h : a < 18446744073709551616) : Go.bits .and .u64 a 4294967295 = a % 4294967296 := by
  obtain ⟨n, rfl⟩ := Int.eq_ofNat_of_zero_le h0
  have := bits_and_u64_nat n 4294967295 (by omega) (by omega)
  have e : ((4294967295 : Nat) : Int) = 4294967295 := rfl
  rw [e] at this
  rw [this]
  have h2 := Nat.and_two_pow_sub_one_eq_mod n 32
  rw [show (2 ^ 32 - 1 : Nat) = 4294967295 from rfl, show (2 ^ 32 : Nat) = 4294967296 from rfl] at h2
  rw [h2]
  omega
theorem wrap_u64_in {x : Int} (h0 : 0 ≤ x) (h : x < 18446744073709551616) : IntKind.u64.wrap x = x := by rw [u64_wrap]; omega
theorem prod_le {a b m n : Int} (h0 : 0 ≤ a) (h1 : a ≤ m) (h2 : 0 ≤ b) (h3 : b ≤ n) : 0 ≤ a * b ∧ a * b ≤ m * n :=
  ⟨Int.mul_nonneg h0 h2, Int.mul_le_mul h1 h3 h2 (by omega)⟩
end Go.Proofs.Ytcldlfhnmkogeaa.RatPlain

/- Which of two fractions of 64 bits is less: what the program answers. -/
set_option linter.unusedVariables false
set_option linter.unusedSimpArgs false
namespace Go.Proofs.Ytcldlfhnmkogeaa.RatPlain
open Go.RowKit Go.Proofs.YtcldlfhnmkogeaaW.PrintWords

theorem mul64 {a b : Int} (a0 : 0 ≤ a) (a1 : a < 18446744073709551616) (b0 : 0 ≤ b) (b1 : b < 18446744073709551616) :
    PLess.bits_Mul64.f a b = some (a * b / 18446744073709551616, a * b % 18446744073709551616) := by
  unfold PLess.bits_Mul64.f
  rw [low32 a0 a1, low32 b0 b1]
  have ha : a = a / 4294967296 * 4294967296 + a % 4294967296 := by omega
  have hb : b = b / 4294967296 * 4294967296 + b % 4294967296 := by omega
  obtain ⟨x, hx⟩ : ∃ x, x = a / 4294967296 := ⟨_, rfl⟩
  obtain ⟨y, hy⟩ : ∃ y, y = a % 4294967296 := ⟨_, rfl⟩
  obtain ⟨u, hu⟩ : ∃ u, u = b / 4294967296 := ⟨_, rfl⟩
  obtain ⟨v, hv⟩ : ∃ v, v = b % 4294967296 := ⟨_, rfl⟩
  have x0 : 0 ≤ x ∧ x ≤ 4294967295 := by omega
  have y0 : 0 ≤ y ∧ y ≤ 4294967295 := by omega
  have u0 : 0 ≤ u ∧ u ≤ 4294967295 := by omega
  have v0 : 0 ≤ v ∧ v ≤ 4294967295 := by omega
  rw [← hx, ← hy] at ha
  rw [← hu, ← hv] at hb
  rw [← hx, ← hy, ← hu, ← hv]
  have pA := prod_le x0.1 x0.2 u0.1 u0.2
  have pB := prod_le x0.1 x0.2 v0.1 v0.2
  have pC := prod_le y0.1 y0.2 u0.1 u0.2
  have pD := prod_le y0.1 y0.2 v0.1 v0.2
  have hab : a * b = x * u * 18446744073709551616 + (x * v + y * u) * 4294967296 + y * v := by
    rw [ha, hb]
    grind
  rw [hab]
  clear hab hx hy hu hv ha hb
  obtain ⟨A, hA⟩ : ∃ A, A = x * u := ⟨_, rfl⟩
  obtain ⟨B, hB⟩ : ∃ A, A = x * v := ⟨_, rfl⟩
  obtain ⟨C, hC⟩ : ∃ A, A = y * u := ⟨_, rfl⟩
  obtain ⟨D, hD⟩ : ∃ A, A = y * v := ⟨_, rfl⟩
  rw [← hA] at pA
  rw [← hB] at pB
  rw [← hC] at pC
  rw [← hD] at pD
  rw [← hA, ← hB, ← hC, ← hD]
  clear hA hB hC hD
  have wA : IntKind.u64.wrap A = A := wrap_u64_in (by omega) (by omega)
  have wB : IntKind.u64.wrap B = B := wrap_u64_in (by omega) (by omega)
  have wC : IntKind.u64.wrap C = C := wrap_u64_in (by omega) (by omega)
  have wD : IntKind.u64.wrap D = D := wrap_u64_in (by omega) (by omega)
  rw [wA, wB, wC, wD]
  have wT : IntKind.u64.wrap (B + D / 4294967296) = B + D / 4294967296 := wrap_u64_in (by omega) (by omega)
  rw [wT, low32 (by omega) (by omega)]
  have wV : IntKind.u64.wrap ((B + D / 4294967296) % 4294967296 + C) = (B + D / 4294967296) % 4294967296 + C := wrap_u64_in (by omega) (by omega)
  rw [wV]
  have wW : IntKind.u64.wrap (A + (B + D / 4294967296) / 4294967296) = A + (B + D / 4294967296) / 4294967296 := wrap_u64_in (by omega) (by omega)
  rw [wW]
  rw [u64_wrap, u64_wrap]
  congr 2
  omega
theorem lessWide_eq {a b c d : Int} (a0 : 0 ≤ a) (a1 : a < 18446744073709551616) (b0 : 0 ≤ b) (b1 : b < 18446744073709551616) (c0 : 0 ≤ c) (c1 : c < 18446744073709551616) (d0 : 0 ≤ d) (d1 : d < 18446744073709551616) :
    PLess.ratio_lessWide.f a b c d = some (decide (a * b < c * d)) := by
  unfold PLess.ratio_lessWide.f
  rw [mul64 a0 a1 b0 b1, mul64 c0 c1 d0 d1]
  simp only [Option.bind_some]
  generalize a * b = P
  generalize c * d = Q
  by_cases h : P < Q
  · rw [decide_eq_true h]
    by_cases h1 : P / 18446744073709551616 < Q / 18446744073709551616
    · rw [if_pos h1]
    · rw [if_neg h1, if_pos (by omega), decide_eq_true (by omega)]
  · rw [decide_eq_false h]
    rw [if_neg (by omega)]
    by_cases h1 : P / 18446744073709551616 = Q / 18446744073709551616
    · rw [if_pos h1, decide_eq_false (by omega)]
    · rw [if_neg h1]
theorem gcd_same : ∀ k x y, PLess.whole_Gcd.l0 k x y = PAdd.whole_Gcd.l0 k x y := by
  intro k
  induction k with
  | zero => intro x y; rfl
  | succ k ih =>
    intro x y
    unfold PLess.whole_Gcd.l0 PAdd.whole_Gcd.l0
    rw [ih]
theorem both_same (k : Nat) (a b c d : Int) : PLess.ratio_both.f k a b c d = PAdd.ratio_both.f k a b c d := by
  have h1 : ∀ x y, PLess.whole_Gcd.f k x y = PAdd.whole_Gcd.f k x y := by
    intro x y
    unfold PLess.whole_Gcd.f PAdd.whole_Gcd.f
    simp only [gcd_same]
    rfl
  have h2 : ∀ x y, PLess.ratio_Right.f k x y = PAdd.ratio_Right.f k x y := by
    intro x y
    unfold PLess.ratio_Right.f PAdd.ratio_Right.f
    rw [h1]
  unfold PLess.ratio_both.f PAdd.ratio_both.f
  rw [h2, h2]
theorem less_size {a : Int} (h : I64 a) : PLess.ratio_size.f a = some (a.natAbs : Int) := by
  unfold I64 at h
  unfold PLess.ratio_size.f
  rw [u64_wrap, u64_wrap]
  split
  · congr 1; omega
  · congr 1; omega
theorem neg_of {a d : Int} (ha : a < 0) (hd : 0 < d) : a * d < 0 := Int.mul_neg_of_neg_of_pos ha hd
theorem less_eq {an ad bn bd : Int} (h1 : I64 an) (h2 : I64 ad) (h3 : I64 bn) (h4 : I64 bd) {k : Nat} (hk : big + 2 < k) :
    PLess.ratio_Less.f k an ad bn bd = some (decide ((Rt an ad ∧ Rt bn bd) ∧ an * bd < bn * ad)) := by
  obtain ⟨k, rfl⟩ : ∃ m, k = m + 2 := ⟨k - 2, by omega⟩
  unfold PLess.ratio_Less.f
  rw [both_same, both_eq h1 h2 h3 h4 (by omega)]
  simp only [Option.bind_some]
  by_cases hr : Rt an ad ∧ Rt bn bd
  · rw [if_pos (by simpa using hr)]
    obtain ⟨ra, rb⟩ := hr
    have pa := ra.1
    have pb := rb.1
    have e : ∀ P : Prop, [Decidable P] → decide ((Rt an ad ∧ Rt bn bd) ∧ P) = decide P := by intro P _; simp [ra, rb]
    rw [e]
    have i1 := h1
    have i2 := h2
    have i3 := h3
    have i4 := h4
    unfold I64 at i1 i2 i3 i4
    have w1 : IntKind.u64.wrap ad = ad := wrap_u64_in (by omega) (by omega)
    have w2 : IntKind.u64.wrap bd = bd := wrap_u64_in (by omega) (by omega)
    by_cases hn : an < 0
    · rw [if_pos hn]
      by_cases hb : bn ≥ 0
      · rw [decide_eq_true hb, PLess.ratio_Less.j0, if_pos rfl]
        have k1 := neg_of hn pb
        have k2 := Int.mul_nonneg hb (Int.le_of_lt pa)
        rw [decide_eq_true (by omega)]
      · rw [decide_eq_false hb, PLess.ratio_Less.j0, if_neg (by simp), if_neg (by omega), PLess.ratio_Less.j1, if_neg (by simp), if_pos hn, less_size h3, less_size h1]
        simp only [Option.bind_some]
        rw [w1, w2, lessWide_eq (by omega) (by omega) (by omega) (by omega) (by omega) (by omega) (by omega) (by omega)]
        have e1 : (bn.natAbs : Int) = - bn := by omega
        have e2 : (an.natAbs : Int) = - an := by omega
        rw [e1, e2, Int.neg_mul, Int.neg_mul]
        simp only [Option.bind_some, Option.some.injEq, decide_eq_decide]
        omega
    · rw [if_neg hn, PLess.ratio_Less.j0, if_neg (by simp), if_pos (by omega), PLess.ratio_Less.j1]
      by_cases hb : bn < 0
      · rw [decide_eq_true hb, if_pos rfl]
        have k1 := neg_of hb pa
        have k2 := Int.mul_nonneg (show 0 ≤ an by omega) (Int.le_of_lt pb)
        rw [decide_eq_false (by omega)]
      · rw [decide_eq_false hb, if_neg (by simp), if_neg hn, less_size h1, less_size h3]
        simp only [Option.bind_some]
        rw [w1, w2, lessWide_eq (by omega) (by omega) (by omega) (by omega) (by omega) (by omega) (by omega) (by omega)]
        have e1 : (bn.natAbs : Int) = bn := by omega
        have e2 : (an.natAbs : Int) = an := by omega
        rw [e1, e2]
        rfl
  · rw [if_neg (by simpa using hr), decide_eq_false (fun h => hr h.1)]
theorem less_calls {an ad bn bd : Int} (h1 : I64 an) (h2 : I64 ad) (h3 : I64 bn) (h4 : I64 bd) (w : World) :
    Calls Try.prog 27 #[.agg #[.int .i64 an, .int .i64 ad], .agg #[.int .i64 bn, .int .i64 bd]] w fun e w' => e = .returned (.bool (decide ((Rt an ad ∧ Rt bn bd) ∧ an * bd < bn * ad))) ∧ Below w.heap.size w w' :=
  PLess.ratio_Less.calls (big + 3) an ad bn bd _ w (less_eq h1 h2 h3 h4 (by omega))
end Go.Proofs.Ytcldlfhnmkogeaa.RatPlain

namespace Go.Proofs.Ytcldlfhnmkogeaa.Scale
open Go.RowKit Go.Proofs.YtcldlfhnmkogeaaW.PrintWords Go.Proofs.Ytcldlfhnmkogeaa.RatPlain Go.Proofs.Ytcldlfhnmkogeaa.PAdd
theorem right_calls {n d : Int} (hn : I64 n) (hd : I64 d) (w : World) : Calls Try.prog 55 #[.agg #[.int .i64 n, .int .i64 d]] w fun e w' => e = .returned (.bool (decide (Rt n d))) ∧ Below w.heap.size w w' :=
  ratio_Right.calls (big + 1) n d _ _ (right_eq hn hd (by omega))
end Go.Proofs.Ytcldlfhnmkogeaa.Scale

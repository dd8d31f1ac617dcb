import Derived.Test.YtcldlfhnmkogeaaRatMul
import Derived.Test.YtcldlfhnmkogeaaRatLess
import Derived.Test.YtcldlfhnmkogeaaPRawx1
/- The document's whole numbers and fractions (lancetref01, lancetref02), as they are printed in PRaw, in plain Lean. -/
set_option linter.unusedVariables false
set_option linter.unusedSimpArgs false
namespace Go.Proofs.Ytcldlfhnmkogeaa.RefPRaw
open Go.RowKit Go.Proofs.YtcldlfhnmkogeaaW.PrintWords Go.Proofs.Ytcldlfhnmkogeaa.RatPlain

theorem size {a : Int} (h : I64 a) : PRaw.lancetref01_Size.f a = some (a.natAbs : Int) := by
  unfold I64 at h
  unfold PRaw.lancetref01_Size.f
  by_cases h0 : a < 0
  · rw [if_pos h0, wrap_in (x := a + 1) (by unfold I64; omega), wrap_in (x := -(a + 1)) (by unfold I64; omega), u64_wrap, u64_wrap]
    congr 1
    omega
  · rw [if_neg h0, u64_wrap]
    congr 1
    omega
theorem loop : ∀ (k y x : Nat), y < k → PRaw.lancetref01_Gcd.l0 k (x : Int) (y : Int) = some ((Nat.gcd x y : Nat) : Int) := by
  intro k
  induction k with
  | zero => intro y x h; omega
  | succ k ih =>
    intro y x h
    unfold PRaw.lancetref01_Gcd.l0
    by_cases hy : y = 0
    · subst hy
      rw [if_neg (by simp), Nat.gcd_zero_right]
    · have h1 : (y : Int) > 0 := by omega
      have h2 : ¬ (y : Int) = 0 := by omega
      have h3 : Int.tmod (x : Int) (y : Int) = ((x % y : Nat) : Int) := by rw [Int.tmod_eq_emod_of_nonneg (by omega)]; rfl
      have h4 : x % y < y := Nat.mod_lt _ (by omega)
      rw [if_pos h1, if_neg h2, h3, ih (x % y) y (by omega)]
      have h5 : Nat.gcd y (x % y) = Nat.gcd x y := by rw [Nat.gcd_comm, ← Nat.gcd_rec, Nat.gcd_comm]
      rw [h5]
theorem gcd {a b : Int} (hb : I64 b) {k : Nat} (hk : big < k) : PRaw.lancetref01_Gcd.f k (a.natAbs : Int) (b.natAbs : Int) = some ((Int.gcd a b : Nat) : Int) := by
  unfold PRaw.lancetref01_Gcd.f
  unfold I64 at hb
  unfold big at hk
  rw [loop k b.natAbs a.natAbs (by omega)]
  rfl
theorem wide {a b : Int} (a0 : 0 ≤ a) (a1 : a < 18446744073709551616) (b0 : 0 ≤ b) (b1 : b < 18446744073709551616) :
    PRaw.lancetref01_Wide.f a b = some (a * b / 18446744073709551616, a * b % 18446744073709551616) := by
  unfold PRaw.lancetref01_Wide.f
  rw [Int.tdiv_eq_ediv_of_nonneg a0, Int.tdiv_eq_ediv_of_nonneg b0, Int.tmod_eq_emod_of_nonneg a0, Int.tmod_eq_emod_of_nonneg b0]
  have ha : a = a / 4294967296 * 4294967296 + a % 4294967296 := by omega
  have hb : b = b / 4294967296 * 4294967296 + b % 4294967296 := by omega
  obtain ⟨x, hx⟩ : ∃ x, x = a / 4294967296 := ⟨_, rfl⟩
  obtain ⟨y, hy⟩ : ∃ y, y = a % 4294967296 := ⟨_, rfl⟩
  obtain ⟨u, hu⟩ : ∃ u, u = b / 4294967296 := ⟨_, rfl⟩
  obtain ⟨v, hv⟩ : ∃ v, v = b % 4294967296 := ⟨_, rfl⟩
  have x0 : 0 ≤ x ∧ x ≤ 4294967295 := by omega
  have y0 : 0 ≤ y ∧ y ≤ 4294967295 := by omega
  have u0 : 0 ≤ u ∧ u ≤ 4294967295 := by omega
  have v0 : 0 ≤ v ∧ v ≤ 4294967295 := by omega
  rw [← hx, ← hy] at ha
  rw [← hu, ← hv] at hb
  rw [← hx, ← hy, ← hu, ← hv]
  have wx : IntKind.u64.wrap x = x := wrap_u64_in (by omega) (by omega)
  have wu : IntKind.u64.wrap u = u := wrap_u64_in (by omega) (by omega)
  rw [wx, wu]
  have pA := prod_le x0.1 x0.2 u0.1 u0.2
  have pB := prod_le x0.1 x0.2 v0.1 v0.2
  have pC := prod_le y0.1 y0.2 u0.1 u0.2
  have pD := prod_le y0.1 y0.2 v0.1 v0.2
  have hab : a * b = x * u * 18446744073709551616 + (x * v + y * u) * 4294967296 + y * v := by
    rw [ha, hb]
    grind
  rw [hab]
  clear hab hx hy hu hv ha hb wx wu
  obtain ⟨A, hA⟩ : ∃ A, A = x * u := ⟨_, rfl⟩
  obtain ⟨B, hB⟩ : ∃ A, A = x * v := ⟨_, rfl⟩
  obtain ⟨C, hC⟩ : ∃ A, A = y * u := ⟨_, rfl⟩
  obtain ⟨D, hD⟩ : ∃ A, A = y * v := ⟨_, rfl⟩
  rw [← hA] at pA
  rw [← hB] at pB
  rw [← hC] at pC
  rw [← hD] at pD
  rw [← hA, ← hB, ← hC, ← hD]
  clear hA hB hC hD
  have wA : IntKind.u64.wrap A = A := wrap_u64_in (by omega) (by omega)
  have wB : IntKind.u64.wrap B = B := wrap_u64_in (by omega) (by omega)
  have wC : IntKind.u64.wrap C = C := wrap_u64_in (by omega) (by omega)
  have wD : IntKind.u64.wrap D = D := wrap_u64_in (by omega) (by omega)
  rw [wA, wB, wC, wD, Int.tdiv_eq_ediv_of_nonneg (by omega : 0 ≤ D), Int.tmod_eq_emod_of_nonneg (by omega : 0 ≤ D)]
  have w1 : IntKind.u64.wrap (D / 4294967296) = D / 4294967296 := wrap_u64_in (by omega) (by omega)
  have w2 : IntKind.u64.wrap (C + D / 4294967296) = C + D / 4294967296 := wrap_u64_in (by omega) (by omega)
  rw [w1, w2, Int.tdiv_eq_ediv_of_nonneg (by omega : 0 ≤ C + D / 4294967296), Int.tmod_eq_emod_of_nonneg (by omega : 0 ≤ C + D / 4294967296)]
  have w3 : IntKind.u64.wrap ((C + D / 4294967296) / 4294967296) = (C + D / 4294967296) / 4294967296 := wrap_u64_in (by omega) (by omega)
  have w4 : IntKind.u64.wrap (B + (C + D / 4294967296) % 4294967296) = B + (C + D / 4294967296) % 4294967296 := wrap_u64_in (by omega) (by omega)
  rw [w3, w4, Int.tdiv_eq_ediv_of_nonneg (by omega : 0 ≤ B + (C + D / 4294967296) % 4294967296), Int.tmod_eq_emod_of_nonneg (by omega : 0 ≤ B + (C + D / 4294967296) % 4294967296)]
  have w5 : IntKind.u64.wrap (A + (C + D / 4294967296) / 4294967296) = A + (C + D / 4294967296) / 4294967296 := wrap_u64_in (by omega) (by omega)
  have w6 : IntKind.u64.wrap ((B + (C + D / 4294967296) % 4294967296) / 4294967296) = (B + (C + D / 4294967296) % 4294967296) / 4294967296 := wrap_u64_in (by omega) (by omega)
  rw [w5, w6]
  simp only [u64_wrap]
  congr 2
  · omega
  · omega
theorem mulJ {k : Nat} {P : Int} (h0 : 0 ≤ P) (minus : Bool) : PRaw.lancetref01_Mul.j0 (k + 2) (P / 18446744073709551616) (P % 18446744073709551616) minus = some (RatPlain.watched (if minus = true then -P else P)) := by
  rw [PRaw.lancetref01_Mul.j0]
  by_cases c1 : P / 18446744073709551616 > 0
  · rw [if_pos c1, PRaw.lancetref01_Mul.j1, if_pos rfl, watched_no (by cases minus <;> (unfold I64; simp; omega))]
  · have hm : P % 18446744073709551616 = P := by omega
    rw [if_neg c1, hm]
    by_cases c2 : P > 9223372036854775808
    · rw [if_pos c2, PRaw.lancetref01_Mul.j1, if_pos rfl, watched_no (by cases minus <;> (unfold I64; simp; omega))]
    · rw [if_neg c2]
      cases minus with
      | true =>
        rw [if_pos rfl, PRaw.lancetref01_Mul.j1, if_neg (by simp), if_pos rfl, if_pos rfl, watched_yes (by unfold I64; omega)]
        have : wrap64 (IntKind.u64.wrap (-P)) = -P := by rw [u64_wrap]; unfold wrap64; omega
        rw [this]
      | false =>
        rw [if_neg (by simp), PRaw.lancetref01_Mul.j1, if_neg (show ¬ (false = true) by simp)]
        by_cases c3 : P = 9223372036854775808
        · subst c3
          rw [if_pos (by decide), watched_no (by decide)]
        · rw [if_neg (by simpa using c3), if_neg (show ¬ (false = true) by simp), watched_yes (by unfold I64; omega), wrap_in (by unfold I64; omega)]
theorem abs_mul (a b : Int) : (a.natAbs : Int) * (b.natAbs : Int) = ((a * b).natAbs : Int) := by rw [Int.natAbs_mul]; simp
theorem mul {a b : Int} (ha : I64 a) (hb : I64 b) {k : Nat} (hk : 2 < k) : PRaw.lancetref01_Mul.f k a b = some (RatPlain.watched (a * b)) := by
  obtain ⟨k, rfl⟩ : ∃ m, k = m + 2 := ⟨k - 2, by omega⟩
  have ha' := ha
  have hb' := hb
  unfold I64 at ha' hb'
  unfold PRaw.lancetref01_Mul.f
  rw [size ha, size hb]
  simp only [Option.bind_some]
  rw [wide (by omega) (by omega) (by omega) (by omega), abs_mul]
  simp only [Option.bind_some]
  rw [mulJ (by omega), mulJ (by omega), mulJ (by omega)]
  by_cases c1 : a < 0
  · rw [if_pos c1]
    by_cases c2 : b > 0
    · have := Int.mul_neg_of_neg_of_pos c1 c2
      rw [if_pos c2, if_pos rfl]
      congr 2
      omega
    · have := Int.mul_nonneg_of_nonpos_of_nonpos (show a ≤ 0 by omega) (show b ≤ 0 by omega)
      rw [if_neg c2, if_neg (by omega), if_neg (by simp)]
      congr 2
      omega
  · rw [if_neg c1]
    by_cases c2 : a > 0
    · rw [if_pos c2]
      by_cases c3 : b < 0
      · have := Int.mul_neg_of_pos_of_neg c2 c3
        rw [decide_eq_true c3, if_pos rfl]
        congr 2
        omega
      · have := Int.mul_nonneg (show 0 ≤ a by omega) (show 0 ≤ b by omega)
        rw [decide_eq_false c3, if_neg (by simp)]
        congr 2
        omega
    · have : a = 0 := by omega
      subst this
      rw [if_neg c2, if_neg (by simp)]
      simp

end Go.Proofs.Ytcldlfhnmkogeaa.RefPRaw

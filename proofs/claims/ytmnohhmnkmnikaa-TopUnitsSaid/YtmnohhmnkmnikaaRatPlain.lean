import Derived.Test.YtmnohhmnkmnikaaPAddx1
/- Fractions of 64 bits, in plain Lean: what the program's fractions work out. -/
set_option linter.unusedVariables false
set_option linter.unusedSimpArgs false
namespace Go.Proofs.Ytmnohhmnkmnikaa.RatPlain
open Go.RowKit Go.Proofs.Ytmnohhmnkmnikaa.PAdd

/-- Within 64 bits. -/
def I64 (x : Int) : Prop := -9223372036854775808 ≤ x ∧ x ≤ 9223372036854775807
instance (x : Int) : Decidable (I64 x) := by unfold I64; infer_instance
/-- Enough rounds. -/
def big : Nat := 9223372036854775808 + 10
theorem wrap_in {x : Int} (h : I64 x) : wrap64 x = x := by unfold I64 at h; unfold wrap64; omega
theorem wrap_I64 (x : Int) : I64 (wrap64 x) := by unfold I64 wrap64; omega
theorem u64_wrap (x : Int) : IntKind.u64.wrap x = x % 18446744073709551616 := by
  simp [IntKind.wrap, IntKind.signed, IntKind.bits]
theorem size_eq {a : Int} (h : I64 a) : whole_size.f a = some (a.natAbs : Int) := by
  unfold I64 at h
  unfold whole_size.f
  rw [u64_wrap, u64_wrap]
  split
  · congr 1; omega
  · congr 1; omega
/-- Euclid's steps. -/
theorem gcd_loop : ∀ (k y x : Nat), y < k → whole_Gcd.l0 k (x : Int) (y : Int) = if Nat.gcd x y > 9223372036854775807 then some (0, false) else some (((Nat.gcd x y : Nat) : Int), true) := by
  intro k
  induction k with
  | zero => intro y x h; omega
  | succ k ih =>
    intro y x h
    unfold whole_Gcd.l0
    by_cases hy : y = 0
    · subst hy
      rw [if_neg (by simp), Nat.gcd_zero_right]
      by_cases hx : (x : Int) > 9223372036854775807
      · rw [if_pos hx, if_pos (by omega)]
      · rw [if_neg hx, if_neg (by omega), wrap_in (by unfold I64; omega)]
    · have h1 : (y : Int) > 0 := by omega
      have h2 : ¬ (y : Int) = 0 := by omega
      have h3 : Int.tmod (x : Int) (y : Int) = ((x % y : Nat) : Int) := by rw [Int.tmod_eq_emod_of_nonneg (by omega)]; rfl
      have h4 : x % y < y := Nat.mod_lt _ (by omega)
      rw [if_pos h1, if_neg h2, h3, ih (x % y) y (by omega)]
      have h5 : Nat.gcd y (x % y) = Nat.gcd x y := by rw [Nat.gcd_comm, ← Nat.gcd_rec, Nat.gcd_comm]
      rw [h5]
theorem gcd_eq {a b : Int} (ha : I64 a) (hb : I64 b) {k : Nat} (hk : big < k) : whole_Gcd.f k a b = if Int.gcd a b > 9223372036854775807 then some (0, false) else some (((Int.gcd a b : Nat) : Int), true) := by
  unfold whole_Gcd.f
  rw [size_eq ha, size_eq hb]
  unfold I64 at hb
  unfold big at hk
  simp only [Option.bind_some]
  rw [gcd_loop k b.natAbs a.natAbs (by omega)]
  rfl
/-- A fraction in lowest terms. -/
def Rt (n d : Int) : Prop := 0 < d ∧ Int.gcd n d = 1
instance (n d : Int) : Decidable (Rt n d) := by unfold Rt; infer_instance
theorem gcd_le {a b : Int} (hb : I64 b) (h0 : 0 < b) : ¬ Int.gcd a b > 9223372036854775807 := by
  unfold I64 at hb
  have := Nat.le_of_dvd (by omega) (Nat.gcd_dvd_right a.natAbs b.natAbs)
  have h2 : Int.gcd a b = Nat.gcd a.natAbs b.natAbs := rfl
  omega
theorem gcd_pos {a b : Int} (h0 : 0 < b) : 0 < Int.gcd a b := Int.gcd_pos_of_ne_zero_right a (by omega)
theorem gcd_pos_eq {a b : Int} (ha : I64 a) (hb : I64 b) (h0 : 0 < b) {k : Nat} (hk : big < k) : whole_Gcd.f k a b = some (((Int.gcd a b : Nat) : Int), true) := by
  rw [gcd_eq ha hb hk, if_neg (gcd_le hb h0)]
theorem right_eq {n d : Int} (hn : I64 n) (hd : I64 d) {k : Nat} (hk : big < k) : ratio_Right.f k n d = some (decide (Rt n d)) := by
  unfold ratio_Right.f
  by_cases h0 : 0 < d
  · rw [gcd_pos_eq hn hd h0 hk]
    have e : decide (Rt n d) = (((Int.gcd n d : Nat) : Int) == 1) := by
      rw [Bool.eq_iff_iff]
      simp [Rt, h0]
      omega
    rw [e]
    simp [h0]
  · rw [gcd_eq hn hd hk]
    have : decide (Rt n d) = false := decide_eq_false (fun h => h0 h.1)
    rw [this]
    split <;> simp [h0]
theorem both_eq {an ad bn bd : Int} (h1 : I64 an) (h2 : I64 ad) (h3 : I64 bn) (h4 : I64 bd) {k : Nat} (hk : big < k) : ratio_both.f k an ad bn bd = some (decide (Rt an ad ∧ Rt bn bd)) := by
  unfold ratio_both.f
  rw [right_eq h1 h2 hk, right_eq h3 h4 hk]
  by_cases h : Rt an ad <;> simp [h]
theorem I64.tdiv {a : Int} (ha : I64 a) {g : Nat} (hg : 0 < g) : I64 (a.tdiv (g : Int)) := by
  unfold I64 at ha ⊢
  have h1 : (a.tdiv (g : Int)).natAbs ≤ a.natAbs := by
    rw [Int.natAbs_tdiv]
    exact Nat.div_le_self _ _
  have h2 : 0 ≤ a → 0 ≤ a.tdiv (g : Int) := fun h => Int.tdiv_nonneg h (by omega)
  have h3 : a < 0 → a.tdiv (g : Int) ≤ 0 := fun h => by
    have := Int.tdiv_nonneg (a := -a) (b := (g : Int)) (by omega) (by omega)
    rw [Int.neg_tdiv] at this
    omega
  generalize a.tdiv (g : Int) = q at h1 h2 h3
  omega
theorem shared_eq {a b : Int} (ha : I64 a) (hb : I64 b) (h0 : 0 < b) {k : Nat} (hk : big < k) : ratio_shared.f k a b = some (a.tdiv (Int.gcd a b : Nat), b.tdiv (Int.gcd a b : Nat)) := by
  unfold ratio_shared.f
  rw [gcd_pos_eq ha hb h0 hk]
  have hg := gcd_pos (a := a) h0
  simp only [Option.bind_some]
  rw [if_pos trivial, if_neg (by omega), wrap_in (ha.tdiv hg), wrap_in (hb.tdiv hg)]
/-- What a watched product, a watched sum is. -/
def watched (x : Int) : Int × Bool := if I64 x then (x, true) else (0, false)
theorem mul_eq {a b : Int} (ha : I64 a) (hb : I64 b) {k : Nat} (hk : big < k) : whole_Mul.f k a b = some (watched (a * b)) := by
  obtain ⟨k, rfl⟩ : ∃ m, k = m + 1 := ⟨k - 1, by unfold big at hk; omega⟩
  unfold whole_Mul.f
  have hz : I64 0 := by decide
  by_cases ha0 : a = 0
  · subst ha0
    rw [if_pos rfl]
    rw [whole_Mul.j0]
    simp [watched, hz]
  · rw [if_neg ha0]
    by_cases hb0 : b = 0
    · subst hb0
      rw [whole_Mul.j0]
      simp [watched, hz]
    · rw [whole_Mul.j0]
      rw [if_neg (by simp [hb0]), if_neg hb0]
      by_cases hi : I64 (a * b)
      · have h1 : (a * b).tdiv b = a := Int.mul_tdiv_cancel a hb0
        rw [wrap_in hi, h1, wrap_in ha, if_pos rfl]
        have e : watched (a * b) = (a * b, true) := by simp [watched, hi]
        rw [e]
        unfold I64 at hi
        by_cases c1 : a = -1
        · subst c1
          rw [if_pos rfl, if_neg (by omega)]
          by_cases c2 : b = -1
          · rw [if_pos c2, if_neg (by omega)]
          · rw [if_neg c2]
        · rw [if_neg c1]
          by_cases c2 : b = -1
          · subst c2
            rw [if_pos rfl, if_neg (by omega)]
          · rw [if_neg c2]
      · have e : watched (a * b) = (0, false) := by simp [watched, hi]
        rw [e]
        by_cases hq : wrap64 ((wrap64 (a * b)).tdiv b) = a
        · rw [if_pos hq]
          by_cases c2 : b = -1
          · subst c2
            have : a = -9223372036854775808 := by unfold I64 at ha hi; omega
            subst this
            decide
          · exfalso
            have hp := wrap_I64 (a * b)
            have hm : ∃ t : Int, a * b - wrap64 (a * b) = 18446744073709551616 * t := by
              unfold wrap64
              exact ⟨(a * b + 9223372036854775808) / 18446744073709551616, by omega⟩
            obtain ⟨t, ht⟩ := hm
            obtain ⟨p, hpp⟩ : ∃ p, p = wrap64 (a * b) := ⟨_, rfl⟩
            rw [← hpp] at hq hp ht
            have hd : I64 (p.tdiv b) := by
              have h1 : (p.tdiv b).natAbs ≤ p.natAbs := by rw [Int.natAbs_tdiv]; exact Nat.div_le_self _ _
              by_cases hb1 : b = 1
              · subst hb1
                rw [Int.tdiv_one]
                exact hp
              · have h2 : (p.tdiv b).natAbs ≤ p.natAbs / 2 := by
                  rw [Int.natAbs_tdiv]
                  exact Nat.div_le_div_left (by omega) (by omega)
                unfold I64 at hp ⊢
                omega
            rw [wrap_in hd] at hq
            have h3 := Int.mul_tdiv_add_tmod p b
            rw [hq] at h3
            have h4 : (p.tmod b).natAbs < b.natAbs := by rw [Int.natAbs_tmod]; exact Nat.mod_lt _ (by omega)
            have h5 : a * b - p = - p.tmod b := by rw [Int.mul_comm a b]; omega
            have h6 : t = 0 := by unfold I64 at hb; omega
            apply hi
            have : a * b = p := by omega
            rw [this]
            exact hp
        · rw [if_neg hq]
theorem watched_yes {x : Int} (h : I64 x) : watched x = (x, true) := by simp [watched, h]
theorem watched_no {x : Int} (h : ¬ I64 x) : watched x = (0, false) := by simp [watched, h]
theorem add_eq {a b : Int} (ha : I64 a) (hb : I64 b) : whole_Add.f a b = some (watched (a + b)) := by
  unfold whole_Add.f
  by_cases h : I64 (a + b)
  · rw [watched_yes h, wrap_in h]
    unfold I64 at *
    by_cases h1 : b > 0
    · rw [if_pos h1, wrap_in (by unfold I64; omega), if_neg (by omega), if_neg (by omega)]
    · rw [if_neg h1]
      by_cases h2 : b < 0
      · rw [if_pos h2, wrap_in (by unfold I64; omega), if_neg (by omega)]
      · rw [if_neg h2]
  · rw [watched_no h]
    unfold I64 at *
    by_cases h1 : b > 0
    · rw [if_pos h1, wrap_in (by unfold I64; omega), if_pos (by omega)]
    · rw [if_neg h1]
      by_cases h2 : b < 0
      · rw [if_pos h2, wrap_in (by unfold I64; omega), if_pos (by omega)]
      · omega
theorem neg_eq {a : Int} (ha : I64 a) : whole_Neg.f a = some (watched (-a)) := by
  unfold whole_Neg.f
  by_cases h : a = -9223372036854775808
  · rw [if_pos h, watched_no (by unfold I64; omega)]
  · have h2 : I64 (-a) := by unfold I64 at *; omega
    rw [if_neg h, watched_yes h2, wrap_in h2]
end Go.Proofs.Ytmnohhmnkmnikaa.RatPlain


import Derived.Test.YtcldlfhnmkogeaaScaleValue
/- What fractions of 64 bits are worth, in plain Lean. -/
set_option linter.unusedVariables false
set_option linter.unusedSimpArgs false
namespace Go.Proofs.Ytcldlfhnmkogeaa.RatPlain

/-- What a fraction is worth. -/
def val (n d : Int) : Rat := Rat.divInt n d
theorem exact (a b : Int) (h : a ∣ b) : a * b.tdiv a = b := Int.mul_tdiv_cancel' h
theorem low_val (n : Int) {d : Int} (h0 : 0 < d) : val (low n d).1 (low n d).2 = val n d := by
  have hg := gcd_pos (a := n) h0
  have e1 := exact _ _ (dvd_left n d)
  have e2 := exact _ _ (dvd_right n d)
  have h := Rat.divInt_mul_left (n := (low n d).1) (d := (low n d).2) (a := ((Int.gcd n d : Nat) : Int)) (by omega)
  unfold val
  rw [← h]
  unfold low
  dsimp only
  rw [e1, e2]
theorem low_Rt (n : Int) {d : Int} (h0 : 0 < d) : Rt (low n d).1 (low n d).2 := by
  have hg := gcd_pos (a := n) h0
  have e1 := exact _ _ (dvd_left n d)
  have e2 := exact _ _ (dvd_right n d)
  refine ⟨exact_pos h0 (dvd_right n d) hg, ?_⟩
  have h := Int.gcd_mul_left (((Int.gcd n d : Nat) : Int)) (low n d).1 (low n d).2
  unfold low at h ⊢
  dsimp only at h ⊢
  rw [e1, e2] at h
  rw [Int.natAbs_natCast] at h
  exact Nat.eq_of_mul_eq_mul_left hg (by omega)
theorem mul_val {an ad bn bd : Int} (ra : Rt an ad) (rb : Rt bn bd) {p : Int × Int} (h : mulR an ad bn bd = some p) : Rt p.1 p.2 ∧ val p.1 p.2 = val an ad * val bn bd := by
  have hg := gcd_pos (a := an) rb.1
  have hh := gcd_pos (a := bn) ra.1
  have e1 := exact _ _ (dvd_left an bd)
  have e2 := exact _ _ (dvd_right an bd)
  have e3 := exact _ _ (dvd_left bn ad)
  have e4 := exact _ _ (dvd_right bn ad)
  have hp : 0 < bd.tdiv (Int.gcd an bd : Nat) * ad.tdiv (Int.gcd bn ad : Nat) :=
    Int.mul_pos (exact_pos rb.1 (dvd_right _ _) (gcd_pos rb.1)) (exact_pos ra.1 (dvd_right _ _) (gcd_pos ra.1))
  simp only [mulR] at h
  split at h
  · cases h
    refine ⟨low_Rt _ hp, ?_⟩
    rw [low_val _ hp]
    unfold val
    rw [Rat.divInt_mul_divInt]
    generalize an.tdiv (Int.gcd an bd : Nat) = xa at *
    generalize bd.tdiv (Int.gcd an bd : Nat) = xb at *
    generalize bn.tdiv (Int.gcd bn ad : Nat) = ya at *
    generalize ad.tdiv (Int.gcd bn ad : Nat) = yb at *
    generalize ((Int.gcd an bd : Nat) : Int) = g at *
    generalize ((Int.gcd bn ad : Nat) : Int) = k at *
    have hz : g * k ≠ 0 := by
      intro hz
      rcases Int.mul_eq_zero.1 hz with h | h
      · subst h; simp at e2; have := rb.1; omega
      · subst h; simp at e4; have := ra.1; omega
    rw [← Rat.divInt_mul_left hz]
    congr 1
    · rw [← e1, ← e3]; grind
    · rw [← e2, ← e4]; grind
  · cases h
theorem add_val {an ad bn bd : Int} (ra : Rt an ad) (rb : Rt bn bd) {p : Int × Int} (h : addR an ad bn bd = some p) : Rt p.1 p.2 ∧ val p.1 p.2 = val an ad + val bn bd := by
  have hg := gcd_pos (a := ad) rb.1
  have e1 := exact _ _ (dvd_left ad bd)
  have e2 := exact _ _ (dvd_right ad bd)
  have hp : 0 < ad * bd.tdiv (Int.gcd ad bd : Nat) := Int.mul_pos ra.1 (exact_pos rb.1 (dvd_right _ _) (gcd_pos rb.1))
  simp only [addR] at h
  split at h
  · cases h
    refine ⟨low_Rt _ hp, ?_⟩
    rw [low_val _ hp]
    unfold val
    rw [Rat.divInt_add_divInt _ _ (by have := ra.1; omega) (by have := rb.1; omega)]
    generalize ad.tdiv (Int.gcd ad bd : Nat) = xa at *
    generalize bd.tdiv (Int.gcd ad bd : Nat) = xb at *
    generalize ((Int.gcd ad bd : Nat) : Int) = g at *
    have hz : g ≠ 0 := by
      intro hz
      subst hz; simp at e2; have := rb.1; omega
    rw [← Rat.divInt_mul_left hz]
    congr 1
    · rw [← e1, ← e2]; grind
    · rw [← e2]; grind
  · cases h
theorem val_num {n d : Int} (h : Rt n d) : (val n d).num = n := by
  unfold val
  rw [Rat.num_divInt, Int.gcd_comm, h.2, Int.sign_eq_one_of_pos h.1]
  simp
theorem val_den {n d : Int} (h : Rt n d) : ((val n d).den : Int) = d := by
  have h0 := h.1
  unfold val
  rw [Rat.den_divInt, Int.gcd_comm, h.2, if_neg (by omega)]
  omega
theorem val_inj {an ad bn bd : Int} (ra : Rt an ad) (rb : Rt bn bd) (h : val an ad = val bn bd) : an = bn ∧ ad = bd := by
  refine ⟨?_, ?_⟩
  · rw [← val_num ra, ← val_num rb, h]
  · rw [← val_den ra, ← val_den rb, h]
theorem val_lt {an ad bn bd : Int} (ra : Rt an ad) (rb : Rt bn bd) : val an ad < val bn bd ↔ an * bd < bn * ad := by
  rw [Rat.lt_iff, val_num ra, val_num rb, val_den ra, val_den rb]
theorem Rt_one (n : Int) : Rt n 1 := ⟨by decide, by simp⟩
theorem val_neg (n d : Int) : val (-n) d = - val n d := by
  unfold val
  rw [Rat.neg_divInt]
theorem Rt_neg {n d : Int} (h : Rt n d) : Rt (-n) d := ⟨h.1, by rw [Int.neg_gcd]; exact h.2⟩
theorem val_zero {n d : Int} (h : Rt n d) : val n d = 0 ↔ n = 0 := by
  constructor
  · intro h0
    rw [← val_num h, h0]
    rfl
  · intro h0
    subst h0
    unfold val
    simp
end Go.Proofs.Ytcldlfhnmkogeaa.RatPlain

import Derived.Test.YtcldlfhnmkogeaaScaleRaw
import Derived.Test.YtcldlfhnmkogeaaRatVal
/- What values and raw numbers are worth, in plain Lean. -/
set_option linter.unusedVariables false
set_option linter.unusedSimpArgs false
namespace Go.Proofs.Ytcldlfhnmkogeaa.Scale
open Go.Proofs.Ytcldlfhnmkogeaa.RatPlain

theorem told_cases (P : Prop) [Decidable P] (r : Option (Int × Int)) : (told P r = (0, 0, 1) ∧ ¬ P) ∨ (P ∧ r = none ∧ told P r = (0, 0, 2)) ∨ (P ∧ ∃ p, r = some p ∧ told P r = (p.1, p.2, 0)) := by
  unfold told
  by_cases h : P
  · rw [if_pos h]
    cases r with
    | none => exact .inr (.inl ⟨h, rfl, rfl⟩)
    | some p => exact .inr (.inr ⟨h, p, rfl, rfl⟩)
  · rw [if_neg h]
    exact .inl ⟨rfl, h⟩
/-- A step: it was wrong before, it goes wrong, or it is worth what it is to be. -/
theorem timesW_cases (r : Int × Int × Int) (bn bd : Int) (hb : Rt bn bd) : (r.2.2 ≠ 0 ∧ timesW r bn bd = r) ∨ (r.2.2 = 0 ∧ ¬ Rt r.1 r.2.1 ∧ timesW r bn bd = (0, 0, 1)) ∨ (r.2.2 = 0 ∧ timesW r bn bd = (0, 0, 2)) ∨
    (r.2.2 = 0 ∧ ∃ n d, timesW r bn bd = (n, d, 0) ∧ Rt n d ∧ val n d = val r.1 r.2.1 * val bn bd) := by
  unfold timesW
  by_cases h : r.2.2 = 0
  · rw [if_pos h]
    rcases told_cases (Rt r.1 r.2.1 ∧ Rt bn bd) (mulR r.1 r.2.1 bn bd) with ⟨h1, h2⟩ | ⟨h1, h2, h3⟩ | ⟨h1, p, h2, h3⟩
    · exact .inr (.inl ⟨h, fun h4 => h2 ⟨h4, hb⟩, h1⟩)
    · exact .inr (.inr (.inl ⟨h, h3⟩))
    · have := mul_val h1.1 h1.2 h2
      exact .inr (.inr (.inr ⟨h, p.1, p.2, h3, this.1, this.2⟩))
  · rw [if_neg h]
    exact .inl ⟨h, rfl⟩
theorem plusW_cases (r : Int × Int × Int) (bn bd : Int) (hb : Rt bn bd) : (r.2.2 ≠ 0 ∧ plusW r bn bd = r) ∨ (r.2.2 = 0 ∧ ¬ Rt r.1 r.2.1 ∧ plusW r bn bd = (0, 0, 1)) ∨ (r.2.2 = 0 ∧ plusW r bn bd = (0, 0, 2)) ∨
    (r.2.2 = 0 ∧ ∃ n d, plusW r bn bd = (n, d, 0) ∧ Rt n d ∧ val n d = val r.1 r.2.1 + val bn bd) := by
  unfold plusW
  by_cases h : r.2.2 = 0
  · rw [if_pos h]
    rcases told_cases (Rt r.1 r.2.1 ∧ Rt bn bd) (addR r.1 r.2.1 bn bd) with ⟨h1, h2⟩ | ⟨h1, h2, h3⟩ | ⟨h1, p, h2, h3⟩
    · exact .inr (.inl ⟨h, fun h4 => h2 ⟨h4, hb⟩, h1⟩)
    · exact .inr (.inr (.inl ⟨h, h3⟩))
    · have := add_val h1.1 h1.2 h2
      exact .inr (.inr (.inr ⟨h, p.1, p.2, h3, this.1, this.2⟩))
  · rw [if_neg h]
    exact .inl ⟨h, rfl⟩
/-- A value: wrong, beyond, or worth the raw number times the scale, and the offset. -/
theorem value_cases (sn sd on od raw : Int) : (¬ (Rt sn sd ∧ Rt on od) ∧ valueR sn sd on od raw = (0, 0, 1)) ∨ ((Rt sn sd ∧ Rt on od) ∧ valueR sn sd on od raw = (0, 0, 2)) ∨
    ((Rt sn sd ∧ Rt on od) ∧ ∃ n d, valueR sn sd on od raw = (n, d, 0) ∧ Rt n d ∧ val n d = val raw 1 * val sn sd + val on od) := by
  unfold valueR
  by_cases h : Rt sn sd ∧ Rt on od
  · rw [if_pos h]
    rcases timesW_cases (raw, 1, 0) sn sd h.1 with ⟨h1, _⟩ | ⟨_, h1, _⟩ | ⟨_, h1⟩ | ⟨_, n, d, h1, h2, h3⟩
    · exact absurd rfl h1
    · exact absurd (Rt_one raw) h1
    · rw [h1]
      exact .inr (.inl ⟨h, rfl⟩)
    · rw [h1]
      rcases plusW_cases (n, d, 0) on od h.2 with ⟨k1, _⟩ | ⟨_, k1, _⟩ | ⟨_, k1⟩ | ⟨_, n2, d2, k1, k2, k3⟩
      · exact absurd rfl k1
      · exact absurd h2 k1
      · exact .inr (.inl ⟨h, k1⟩)
      · refine .inr (.inr ⟨h, n2, d2, k1, k2, ?_⟩)
        rw [k3]
        dsimp only
        rw [h3]
  · rw [if_neg h]
    exact .inl ⟨h, rfl⟩
theorem value_err {sn sd on od raw v1 v2 v3 : Int} (h : valueR sn sd on od raw = (v1, v2, v3)) (h3 : v3 ≠ 0) : v1 = 0 ∧ v2 = 0 := by
  rcases value_cases sn sd on od raw with ⟨_, k⟩ | ⟨_, k⟩ | ⟨_, n, d, k, _⟩ <;> rw [k] at h <;> cases h
  · exact ⟨rfl, rfl⟩
  · exact ⟨rfl, rfl⟩
  · exact absurd rfl h3
theorem value_ok {sn sd on od raw v1 v2 : Int} (h : valueR sn sd on od raw = (v1, v2, 0)) : Rt sn sd ∧ Rt on od ∧ Rt v1 v2 ∧ val v1 v2 = val raw 1 * val sn sd + val on od := by
  rcases value_cases sn sd on od raw with ⟨_, k⟩ | ⟨_, k⟩ | ⟨hr, n, d, k, k2, k3⟩ <;> rw [k] at h <;> cases h
  exact ⟨hr.1, hr.2, k2, k3⟩
theorem over_Rt {sn sd : Int} (h : Rt sn sd) (hz : sn ≠ 0) : Rt (over sn sd).1 (over sn sd).2 ∧ val (over sn sd).1 (over sn sd).2 * val sn sd = 1 := by
  have h0 := h.1
  have hv : val sd sn * val sn sd = 1 := by
    unfold val
    rw [Rat.divInt_mul_divInt, Int.mul_comm]
    exact Rat.divInt_self' (Int.mul_ne_zero hz (by omega))
  unfold over
  by_cases hs : sn > 0
  · rw [if_pos hs]
    exact ⟨⟨hs, by rw [Int.gcd_comm]; exact h.2⟩, hv⟩
  · rw [if_neg hs]
    refine ⟨⟨by dsimp only; omega, by rw [Int.neg_gcd, Int.gcd_neg, Int.gcd_comm]; exact h.2⟩, ?_⟩
    have : val (-sd) (-sn) = val sd sn := Rat.neg_divInt_neg _ _
    rw [this]
    exact hv
/-- The raw number of a value of a raw number. -/
theorem raw_back {sn sd on od raw v1 v2 : Int} (h : valueR sn sd on od raw = (v1, v2, 0)) :
    (sn = 0 → rawR sn sd on od v1 v2 = (0, 3) ∧ v1 = on ∧ v2 = od) ∧ (sn ≠ 0 → rawR sn sd on od v1 v2 = (raw, 0) ∨ rawR sn sd on od v1 v2 = (0, 2)) := by
  obtain ⟨hs, ho, hv, hval⟩ := value_ok h
  have hn : ¬ ¬ ((Rt sn sd ∧ Rt on od) ∧ Rt v1 v2) := fun hn => hn ⟨⟨hs, ho⟩, hv⟩
  unfold rawR
  rw [if_neg hn]
  refine ⟨fun hz => ?_, fun hz => ?_⟩
  · rw [if_pos hz]
    refine ⟨rfl, ?_⟩
    have h0 : val sn sd = 0 := (val_zero hs).2 hz
    rw [h0] at hval
    exact val_inj hv ho (by rw [hval]; grind)
  · rw [if_neg hz]
    split
    · exact .inr rfl
    · obtain ⟨hb, hov⟩ := over_Rt hs hz
      rcases plusW_cases (v1, v2, 0) (-on) od (Rt_neg ho) with ⟨k1, _⟩ | ⟨_, k1, _⟩ | ⟨_, k1⟩ | ⟨_, n, d, k1, k2, k3⟩
      · exact absurd rfl k1
      · exact absurd hv k1
      · rw [k1]
        exact .inr rfl
      · rw [k1]
        rcases timesW_cases (n, d, 0) (over sn sd).1 (over sn sd).2 hb with ⟨m1, _⟩ | ⟨_, m1, _⟩ | ⟨_, m1⟩ | ⟨_, n2, d2, m1, m2, m3⟩
        · exact absurd rfl m1
        · exact absurd k2 m1
        · rw [m1]
          exact .inr rfl
        · rw [m1]
          left
          have e : val n2 d2 = val raw 1 := by
            rw [m3]
            dsimp only at k3 ⊢
            rw [k3, hval, val_neg]
            grind
          obtain ⟨e1, e2⟩ := val_inj m2 (Rt_one raw) e
          subst e1 e2
          rfl
end Go.Proofs.Ytcldlfhnmkogeaa.Scale

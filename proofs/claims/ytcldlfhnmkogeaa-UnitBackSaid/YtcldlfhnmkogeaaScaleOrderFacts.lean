import Derived.Test.YtcldlfhnmkogeaaScaleFacts
import Derived.Test.YtcldlfhnmkogeaaRatLess
/- The order of values, in plain Lean. -/
set_option linter.unusedVariables false
set_option linter.unusedSimpArgs false
namespace Go.Proofs.Ytcldlfhnmkogeaa.Scale
open Go.Proofs.Ytcldlfhnmkogeaa.RatPlain

theorem scale_up {s : Rat} (hs : 0 < s) (o a b : Rat) : a * s + o < b * s + o ↔ a < b := by
  have h1 : ∀ x y : Rat, x < y → x * s < y * s := fun x y h => Rat.mul_lt_mul_of_pos_right h hs
  constructor
  · intro h
    by_cases hab : a < b
    · exact hab
    · exfalso
      by_cases hba : b < a
      · have := h1 b a hba
        grind
      · have e : a = b := by grind
        subst e
        grind
  · intro h
    have := h1 a b h
    grind
theorem scale_down {s : Rat} (hs : s < 0) (o a b : Rat) : a * s + o < b * s + o ↔ b < a := by
  have h := scale_up (s := -s) (by grind) (-o) b a
  rw [← h]
  constructor <;> intro k <;> grind
theorem val_pos {n d : Int} (h : Rt n d) : 0 < val n d ↔ 0 < n := by
  have h1 := val_lt (Rt_one 0) h
  have h0 : val 0 1 = 0 := (val_zero (Rt_one 0)).2 rfl
  rw [h0] at h1
  rw [h1]
  omega
theorem val_down {n d : Int} (h : Rt n d) : val n d < 0 ↔ n < 0 := by
  have h1 := val_lt h (Rt_one 0)
  have h0 : val 0 1 = 0 := (val_zero (Rt_one 0)).2 rfl
  rw [h0] at h1
  rw [h1]
  omega
theorem val_int (a b : Int) : val a 1 < val b 1 ↔ a < b := by
  rw [val_lt (Rt_one a) (Rt_one b)]
  omega
/-- What Less answers. -/
def lessB (an ad bn bd : Int) : Bool := decide ((Rt an ad ∧ Rt bn bd) ∧ an * bd < bn * ad)
theorem lessB_val {an ad bn bd : Int} (ra : Rt an ad) (rb : Rt bn bd) : lessB an ad bn bd = decide (val an ad < val bn bd) := by
  unfold lessB
  rw [Bool.eq_iff_iff]
  simp [ra, rb, val_lt ra rb]
theorem order {sn sd on od a b v1 v2 w1 w2 : Int} (hv : valueR sn sd on od a = (v1, v2, 0)) (hw : valueR sn sd on od b = (w1, w2, 0)) :
    (sn = 0 → lessB v1 v2 w1 w2 = false ∧ lessB w1 w2 v1 v2 = false ∧ v1 = w1 ∧ v2 = w2) ∧ (sn < 0 → lessB v1 v2 w1 w2 = decide (b < a) ∧ lessB w1 w2 v1 v2 = decide (a < b)) ∧
    (0 < sn → lessB v1 v2 w1 w2 = decide (a < b) ∧ lessB w1 w2 v1 v2 = decide (b < a)) := by
  obtain ⟨hs, ho, rv, ev⟩ := value_ok hv
  obtain ⟨_, _, rw_, ew⟩ := value_ok hw
  rw [lessB_val rv rw_, lessB_val rw_ rv, ev, ew]
  refine ⟨fun hz => ?_, fun hz => ?_, fun hz => ?_⟩
  · have h0 : val sn sd = 0 := (val_zero hs).2 hz
    rw [h0] at ev ew ⊢
    have e : val v1 v2 = val w1 w2 := by rw [ev, ew]; grind
    have := val_inj rv rw_ e
    refine ⟨by simp, by simp, this.1, this.2⟩
  · have h0 : val sn sd < 0 := (val_down hs).2 hz
    exact ⟨decide_eq_decide.2 ((scale_down h0 _ _ _).trans (val_int b a)), decide_eq_decide.2 ((scale_down h0 _ _ _).trans (val_int a b))⟩
  · have h0 : 0 < val sn sd := (val_pos hs).2 hz
    exact ⟨decide_eq_decide.2 ((scale_up h0 _ _ _).trans (val_int a b)), decide_eq_decide.2 ((scale_up h0 _ _ _).trans (val_int b a))⟩
theorem value_In {sn sd on od raw : Int} (hraw : I64 raw) : In (valueR sn sd on od raw) := by
  have h0 : I64 0 := by decide
  unfold valueR
  split
  · exact plusW_In (timesW_In ⟨hraw, (by decide : I64 1)⟩)
  · exact ⟨h0, h0⟩
end Go.Proofs.Ytcldlfhnmkogeaa.Scale

import Derived.Test.YtcldlfhnmkogeaaScaleIn
import Derived.Test.YtcldlfhnmkogeaaScaleMore
/- A field told in another unit of its kind, in plain Lean. -/
set_option linter.unusedVariables false
set_option linter.unusedSimpArgs false
namespace Go.Proofs.Ytcldlfhnmkogeaa.Scale
open Go.Proofs.Ytcldlfhnmkogeaa.RatPlain Go.Proofs.Ytcldlfhnmkogeaa.Unit

def outA (o : Option (Int × Int)) : Int × Int × Int := match o with | some p => (p.1, p.2, 0) | none => (0, 0, 2)
theorem told_outA {P : Prop} [Decidable P] (h : P) (r : Option (Int × Int)) : told P r = outA r := by
  unfold told outA
  rw [if_pos h]
  cases r <;> rfl
theorem conv_Rt {a b : ByteArray} {vn vd n d : Int} (h : convR a b vn vd = (n, d, 0)) : Rt vn vd := by
  by_cases hv : Rt vn vd
  · exact hv
  · exfalso
    unfold convR at h
    repeat' split at h
    all_goals first
      | (exact hv (by assumption))
      | (simp at h; done)
theorem in_cases {sn sd on od raw : Int} (hs : Rt sn sd) (ho : Rt on od) {u tu : ByteArray} {X : URow} (hu : find u = some X) :
    inR sn sd on od raw u tu = (0, 0, 2) ∨ (find tu = none ∧ inR sn sd on od raw u tu = (0, 0, 4)) ∨ (∃ T, find tu = some T ∧ ¬ likeU X T ∧ inR sn sd on od raw u tu = (0, 0, 5)) ∨
      ∃ T n d, find tu = some T ∧ likeU X T ∧ inR sn sd on od raw u tu = (n, d, 0) ∧ Rt n d ∧ val n d * T.F + T.O = (val raw 1 * val sn sd + val on od) * X.F + X.O := by
  unfold inR
  rcases value_cases sn sd on od raw with ⟨h, _⟩ | ⟨_, h⟩ | ⟨_, h⟩
  · exact absurd ⟨hs, ho⟩ h
  · rw [h]; exact .inl rfl
  · obtain ⟨v1, v2, h⟩ : ∃ v1 v2, valueR sn sd on od raw = (v1, v2, 0) := by
      rcases h with ⟨v1, v2, h, _⟩
      exact ⟨v1, v2, h⟩
    obtain ⟨_, _, rv, ev⟩ := value_ok h
    rw [h]
    dsimp only
    rw [if_pos rfl]
    rcases conv_cases u tu rv with ⟨hm, k⟩ | ⟨x, y, hx, hy, ⟨hl, k⟩ | ⟨_, k, _⟩ | ⟨hl, n, d, k, k2, k3⟩⟩
    · rcases hm with hm | hm
      · rw [hu] at hm; cases hm
      · exact .inr (.inl ⟨hm, k⟩)
    · rw [hu] at hx
      cases hx
      exact .inr (.inr (.inl ⟨y, hy, hl, k⟩))
    · exact .inl k
    · rw [hu] at hx
      cases hx
      rw [ev] at k3
      exact .inr (.inr (.inr ⟨y, n, d, hy, hl, k, k2, k3⟩))
theorem like_same {X Y T : URow} (h : likeU X Y) : likeU X T ↔ likeU Y T := by
  obtain ⟨h1, h2, h3, h4⟩ := h
  unfold likeU
  rw [h1, h2, h3, h4]
/-- What the two tell. -/
def Fit (v1 v2 j w1 w2 k : Int) : Prop := (j = 2 ∧ (k = 0 ∨ k = 2 ∨ k = 4 ∨ k = 5)) ∨ (k = 2 ∧ (j = 0 ∨ j = 4 ∨ j = 5)) ∨ (j = 4 ∧ k = 4) ∨ (j = 5 ∧ k = 5) ∨ (j = 0 ∧ k = 0 ∧ v1 = w1 ∧ v2 = w2)
theorem again {sn sd on od raw a1 a2 b1 b2 c1 c2 s1 s2 : Int} {u u2 tu : ByteArray} (ha : convR u u2 sn sd = (a1, a2, 0)) (hb : convR u u2 0 1 = (b1, b2, 0)) (hc : convR u u2 on od = (c1, c2, 0))
    (hadd : addR a1 a2 (-b1) b2 = some (s1, s2)) {v1 v2 j w1 w2 k : Int} (hv : inR sn sd on od raw u tu = (v1, v2, j)) (hw : inR s1 s2 c1 c2 raw u2 tu = (w1, w2, k)) : Fit v1 v2 j w1 w2 k := by
  have rs := conv_Rt ha
  have ro := conv_Rt hc
  obtain ⟨X, Y, hX, hY, hl, ra, ea⟩ := conv_ok rs ha
  obtain ⟨X', Y', hX', hY', _, rb, eb⟩ := conv_ok (Rt_one 0) hb
  rw [hX] at hX'; cases hX'
  rw [hY] at hY'; cases hY'
  obtain ⟨X', Y', hX', hY', _, rc, ec⟩ := conv_ok ro hc
  rw [hX] at hX'; cases hX'
  rw [hY] at hY'; cases hY'
  obtain ⟨r3, e3⟩ := add_val ra (Rt_neg rb) hadd
  dsimp only at r3 e3
  rw [val_neg] at e3
  have z0 : val 0 1 = 0 := (val_zero (Rt_one 0)).2 rfl
  rw [z0] at eb
  unfold Fit
  rcases in_cases (raw := raw) rs ro (tu := tu) hX with p | ⟨pm, p⟩ | ⟨T, pT, pl, p⟩ | ⟨T, n, d, pT, pl, p, pr, pe⟩ <;> rw [p] at hv <;> cases hv <;>
    rcases in_cases (raw := raw) r3 rc (tu := tu) hY with q | ⟨qm, q⟩ | ⟨T', qT, ql, q⟩ | ⟨T', m, e, qT, ql, q, qr, qe⟩ <;> rw [q] at hw <;> cases hw
  all_goals first
    | (simp; done)
    | (exfalso; rw [pm] at qT; cases qT; done)
    | (exfalso; rw [pT] at qm; cases qm; done)
    | (exfalso; rw [pT] at qT; cases qT; exact pl ((like_same hl).2 ql))
    | (exfalso; rw [pT] at qT; cases qT; exact ql ((like_same hl).1 pl))
    | skip
  rw [pT] at qT
  cases qT
  have he : val v1 v2 = val w1 w2 := by
    refine cancel (f := T.F) (o := T.O) (find_good pT).pos ?_
    rw [pe, qe, e3]
    grind
  obtain ⟨g1, g2⟩ := val_inj pr qr he
  exact .inr (.inr (.inr (.inr ⟨rfl, rfl, g1, g2⟩)))
end Go.Proofs.Ytcldlfhnmkogeaa.Scale

import Derived.Test.YtcldlfhnmkogeaaScaleFacts
/- Small numbers' values, in plain Lean. -/
set_option linter.unusedVariables false
set_option linter.unusedSimpArgs false
namespace Go.Proofs.Ytcldlfhnmkogeaa.Scale
open Go.Proofs.Ytcldlfhnmkogeaa.RatPlain

/-- At most so great. -/
def Bd (a : Int) (m : Nat) : Prop := a.natAbs ≤ m
theorem Bd.mul {a b : Int} {m n : Nat} (ha : Bd a m) (hb : Bd b n) : Bd (a * b) (m * n) := by
  unfold Bd at *
  rw [Int.natAbs_mul]
  exact Nat.mul_le_mul ha hb
theorem Bd.add {a b : Int} {m n : Nat} (ha : Bd a m) (hb : Bd b n) : Bd (a + b) (m + n) := by
  unfold Bd at *
  omega
theorem Bd.tdiv {a : Int} {m : Nat} (ha : Bd a m) (g : Int) : Bd (a.tdiv g) m := by
  unfold Bd at *
  rw [Int.natAbs_tdiv]
  exact Nat.le_trans (Nat.div_le_self _ _) ha
theorem Bd.fits {a : Int} {m : Nat} (ha : Bd a m) (hm : m ≤ 9223372036854775807) : I64 a := by
  unfold Bd I64 at *
  omega
theorem low_Bd {n d : Int} {m k : Nat} (hn : Bd n m) (hd : Bd d k) : Bd (low n d).1 m ∧ Bd (low n d).2 k := ⟨hn.tdiv _, hd.tdiv _⟩
theorem exact_small {sn sd on od raw : Int} (hs : Rt sn sd) (ho : Rt on od) (h1 : Bd raw 1000000) (h2 : Bd sn 1000) (h3 : Bd sd 1000) (h4 : Bd on 1000) (h5 : Bd od 1000) :
    ∃ v1 v2, valueR sn sd on od raw = (v1, v2, 0) ∧ Bd v1 1000001000000 ∧ Bd v2 1000000 ∧ 0 < v2 ∧ v1 * (sd * od) = (raw * sn * od + on * sd) * v2 := by
  have b1 : Bd 1 1 := by unfold Bd; decide
  have k1 : Bd (raw.tdiv (Int.gcd raw sd : Nat) * sn.tdiv (Int.gcd sn 1 : Nat)) (1000000 * 1000) := (h1.tdiv _).mul (h2.tdiv _)
  have k2 : Bd (sd.tdiv (Int.gcd raw sd : Nat) * (1 : Int).tdiv (Int.gcd sn 1 : Nat)) (1000 * 1) := (h3.tdiv _).mul (b1.tdiv _)
  have m : mulR raw 1 sn sd = some (low (raw.tdiv (Int.gcd raw sd : Nat) * sn.tdiv (Int.gcd sn 1 : Nat)) (sd.tdiv (Int.gcd raw sd : Nat) * (1 : Int).tdiv (Int.gcd sn 1 : Nat))) := by
    unfold mulR
    rw [if_pos ⟨k1.fits (by decide), k2.fits (by decide)⟩]
  have hl := low_Bd k1 k2
  have hm := mul_val (Rt_one raw) hs m
  obtain ⟨⟨a, d⟩, hp⟩ : ∃ p, low (raw.tdiv (Int.gcd raw sd : Nat) * sn.tdiv (Int.gcd sn 1 : Nat)) (sd.tdiv (Int.gcd raw sd : Nat) * (1 : Int).tdiv (Int.gcd sn 1 : Nat)) = p := ⟨_, rfl⟩
  rw [hp] at m hl hm
  have e1 : timesW (raw, 1, 0) sn sd = (a, d, 0) := by
    unfold timesW told
    rw [if_pos rfl, if_pos ⟨Rt_one raw, hs⟩]
    simp [m]
  have q1 : Bd (a * od.tdiv (Int.gcd d od : Nat)) (1000000 * 1000 * 1000) := hl.1.mul (h5.tdiv _)
  have q2 : Bd (on * d.tdiv (Int.gcd d od : Nat)) (1000 * (1000 * 1)) := h4.mul (hl.2.tdiv _)
  have q3 := q1.add q2
  have q4 : Bd (d * od.tdiv (Int.gcd d od : Nat)) (1000 * 1 * 1000) := hl.2.mul (h5.tdiv _)
  have ad : addR a d on od = some (low (a * od.tdiv (Int.gcd d od : Nat) + on * d.tdiv (Int.gcd d od : Nat)) (d * od.tdiv (Int.gcd d od : Nat))) := by
    unfold addR
    rw [if_pos ⟨q1.fits (by decide), q2.fits (by decide), q3.fits (by decide), q4.fits (by decide)⟩]
  have hl2 := low_Bd q3 q4
  obtain ⟨⟨v1, v2⟩, hv⟩ : ∃ p, low (a * od.tdiv (Int.gcd d od : Nat) + on * d.tdiv (Int.gcd d od : Nat)) (d * od.tdiv (Int.gcd d od : Nat)) = p := ⟨_, rfl⟩
  rw [hv] at ad hl2
  have e2 : valueR sn sd on od raw = (v1, v2, 0) := by
    unfold valueR
    rw [if_pos ⟨hs, ho⟩, e1]
    unfold plusW told
    rw [if_pos rfl, if_pos ⟨hm.1, ho⟩]
    simp [ad]
  obtain ⟨_, _, rv, ev⟩ := value_ok e2
  refine ⟨v1, v2, e2, hl2.1, hl2.2, rv.1, ?_⟩
  have z1 := hs.1
  have z2 := ho.1
  have z3 := rv.1
  unfold val at ev
  rw [Rat.divInt_mul_divInt, Rat.divInt_add_divInt _ _ (by omega) (by omega), Rat.divInt_eq_divInt_iff (by omega) (Int.mul_ne_zero (by omega) (by omega))] at ev
  rw [Int.one_mul] at ev
  exact ev
end Go.Proofs.Ytcldlfhnmkogeaa.Scale

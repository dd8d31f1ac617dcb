import Derived.Test.YtcldlfhnmkogeaaPbitsx1
import Derived.Test.YtcldlfhnmkogeaaPturnedx1
import Derived.Test.YtcldlfhnmkogeaaCrcCalls
import Derived.LoopTactic
import Derived.Lib.Hide
import Derived.RegionTactic
/- The document's bits, turned, number, Turn: what they come to. -/
set_option linter.unusedVariables false
set_option linter.unusedSimpArgs false
namespace Go.Proofs.Ytcldlfhnmkogeaa.CrcRefTurn
open Go.RowKit Go.Proofs.Ytcldlfhnmkogeaa.Pbits Go.Proofs.Ytcldlfhnmkogeaa.Pturned Go.Proofs.YtcldlfhnmkogeaaW.PrintWords Go.Proofs.Ytcldlfhnmkogeaa.Nats Go.Proofs.Ytcldlfhnmkogeaa.CrcPlain Go.Proofs.Ytcldlfhnmkogeaa.RunPSum Go.Proofs.Ytcldlfhnmkogeaa.CrcCalls

theorem bits_l0 (n : Nat) (hn : n ≤ 40) : ∀ (d v i : Nat) (acc : List Bool), i + d = n → v < 4294967296 → acc.length = i → Ev (fun k => lancetref04_bits.l0 k (v : Int) (n : Int) acc (i : Int)) (lb d v ++ acc)
  | 0, v, i, acc, hi, hv, ha => by
    refine Ev.step (f := fun _ => some acc) (fun k => ?_) (Ev.now _)
    simp only [lancetref04_bits.l0]; rw [if_neg (by omega)]
  | d + 1, v, i, acc, hi, hv, ha => by
    have := bits_l0 n hn d (v / 2) (i + 1) (v.testBit 0 :: acc) (by omega) (by omega) (by simp [ha])
    rw [lb_succ, List.append_assoc, List.singleton_append]
    refine Ev.step (fun k => ?_) this
    simp only [lancetref04_bits.l0, Option.bind_some]
    have e1 : (Int.tmod (v : Int) 2 == 1) = v.testBit 0 := by
      have e : Int.tmod (v : Int) 2 = ((v % 2 : Nat) : Int) := by rw [Int.tmod_eq_emod_of_nonneg (by omega)]; omega
      rw [e, Nat.testBit_zero]
      rcases Nat.mod_two_eq_zero_or_one v with h | h <;> simp [h]
    have e2 : (Int.tdiv (v : Int) 2) % 4294967296 = ((v / 2 : Nat) : Int) := by
      rw [Int.tdiv_eq_ediv_of_nonneg (by omega)]; omega
    rw [if_pos (by omega), if_pos (by simp only [List.length_singleton]; omega), w64 (by omega) (by omega), e1, e2]
    rfl
theorem bits_ev (v n : Nat) (hv : v < 4294967296) (hn : n ≤ 40) : Ev (fun k => lancetref04_bits.f k (v : Int) (n : Int)) (lb n v) := by
  have h := bits_l0 n hn n v 0 [] (by omega) hv rfl
  rw [List.append_nil] at h
  exact h
theorem turned_l0 (l : List Bool) (hl : l.length ≤ 64) : ∀ (i : Nat) (acc : List Bool), i ≤ l.length → acc.length + i = l.length → Ev (fun k => lancetref04_turned.l0 k l acc ((i : Int) - 1)) (acc ++ (l.take i).reverse)
  | 0, acc, hi, ha => by
    refine Ev.step (f := fun _ => some acc) (fun k => ?_) (by simpa using Ev.now acc)
    simp only [lancetref04_turned.l0]; rw [if_neg (by omega)]
  | i + 1, acc, hi, ha => by
    have hlt : i < l.length := by omega
    have := turned_l0 l hl i (acc ++ [l[i]]) (by omega) (by simp; omega)
    rw [List.take_succ_eq_append_getElem hlt, List.reverse_append, List.reverse_singleton, ← List.append_assoc]
    refine Ev.step (fun k => ?_) this
    simp only [lancetref04_turned.l0]
    have e0 : (((i + 1 : Nat) : Int) - 1) = (i : Int) := by omega
    have e1 : rdOf false l (i : Int) = l[i] := by simp [rdOf, List.getD_eq_getElem?_getD, hlt]
    have e2 : wrap64 ((i : Int) - 1) = (i : Int) - 1 := by unfold wrap64; omega
    rw [e0, if_pos (by omega), if_pos (by omega), if_pos (by omega), if_pos (by omega), e1, e2]
theorem turned_ev (l : List Bool) (hl : l.length ≤ 64) : Ev (fun k => lancetref04_turned.f k l) l.reverse := by
  have h := turned_l0 l hl l.length [] (Nat.le_refl _) (by simp)
  rw [List.take_length, List.nil_append] at h
  refine Ev.congr (fun k => ?_) h
  have e : wrap64 ((l.length : Int) - 1) = (l.length : Int) - 1 := by unfold wrap64; omega
  unfold lancetref04_turned.f
  rw [e]

theorem num_take_lt (l : List Bool) (k : Nat) (hk : k ≤ 31) : num (l.take k) < 2147483648 := by
  have h := num_lt (l.take k)
  have : (l.take k).length ≤ 31 := by rw [List.length_take]; omega
  exact Nat.lt_of_lt_of_le h (Nat.pow_le_pow_right (by omega) this)

set_option maxRecDepth 100000 in
set_option maxHeartbeats 1000000 in
theorem number_calls (l : List Bool) (hl : l.length ≤ 32) (A : Option Addr) (n c : Nat) (w : World) (hn : l.length = n) (hr : Kd.C Kd.bool w A n l) :
    Calls Try.prog 90 #[.slice A n c] w fun e w' => e = .returned (.int .u32 ((num l : Nat) : Int)) ∧ w = w' := by
  have hn1 : n ≤ l.length := by omega
  have hn2 : l.length ≤ n := by omega
  clear hn
  go_enter Try.func90, Try.ntmps90
  go_wp2
  go_loop [3, 4] (fun v i => ∃ k : Nat, k ≤ n ∧ i = .int .i64 k ∧ v = .int .u32 ((num (l.take k) : Nat) : Int)) (fun _ i => n - (intOf i).toNat)
  case atStart => exact ⟨0, Nat.zero_le _, rfl, rfl⟩
  case round =>
    obtain ⟨k, hk, rfl, rfl⟩ := hrel
    by_cases hlt : k < n
    · have hm := num_take_lt l k (by omega)
      obtain ⟨ad, rfl, hcell⟩ := Kd.at_bool hr (k : Int) (by omega) (by omega)
      rw [Int.toNat_natCast] at hcell
      have hlk : k < l.length := by omega
      have e1 : rdOf false l (k : Int) = l[k] := by simp [rdOf, List.getD_eq_getElem?_getD, hlk]
      rw [e1] at hcell
      have hs := num_snoc (l.take k) l[k]
      rw [← List.take_succ_eq_append_getElem hlk] at hs
      have HS := Lib.hid hs
      clear hs e1
      cases hb : l[k] with
      | true =>
        rw [hb] at hcell HS
        have hm2 : (0 : Int) ≤ ((num (l.take k) : Nat) : Int) := by omega
        go_wp2
        go_round
        case rel => exact ⟨k + 1, by omega, by go_num, by rw [HS.out]; go_num⟩
        case measure => simp [intOf]; omega
      | false =>
        rw [hb] at hcell HS
        go_wp2
        go_round
        case rel => exact ⟨k + 1, by omega, by go_num, by rw [HS.out]; go_num⟩
        case measure => simp [intOf]; omega
    · go_wp2
      go_ret
      exact ⟨by rw [List.take_of_length_le (by omega)]; rfl, rfl⟩
end Go.Proofs.Ytcldlfhnmkogeaa.CrcRefTurn

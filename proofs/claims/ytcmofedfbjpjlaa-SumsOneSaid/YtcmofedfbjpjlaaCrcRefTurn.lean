import Derived.Test.YtcmofedfbjpjlaaPbitsx1
import Derived.Test.YtcmofedfbjpjlaaPturnedx1
import Derived.Test.YtcmofedfbjpjlaaCrcCalls
import Derived.LoopTactic
import Derived.Lib.Hide
import Derived.RegionTactic
/- The document's bits, turned, number, Turn: what they come to. -/
set_option linter.unusedVariables false
set_option linter.unusedSimpArgs false
namespace Go.Proofs.Ytcmofedfbjpjlaa.CrcRefTurn
open Go.RowKit Go.Proofs.Ytcmofedfbjpjlaa.Pbits Go.Proofs.Ytcmofedfbjpjlaa.Pturned Go.Proofs.YtcmofedfbjpjlaaW.PrintWords Go.Proofs.Ytcmofedfbjpjlaa.Nats Go.Proofs.Ytcmofedfbjpjlaa.CrcPlain Go.Proofs.Ytcmofedfbjpjlaa.RunPSum Go.Proofs.Ytcmofedfbjpjlaa.CrcCalls

theorem bits_l0 (n : Nat) (hn : n ≤ 40) : ∀ (d v i : Nat) (acc : List Bool), i + d = n → v < 4294967296 → acc.length = i → Ev (fun k => lancetref04_bits.l0 k (v : Int) (n : Int) acc (i : Int)) (lb d v ++ acc)
  | 0, v, i, acc, hi, hv, ha => by
    refine Ev.step (f := fun _ => some acc) (fun k => ?_) (Ev.now _)
    simp only [lancetref04_bits.l0]; rw [if_neg (by omega)]
  | d + 1, v, i, acc, hi, hv, ha => by
    have := bits_l0 n hn d (v / 2) (i + 1) (v.testBit 0 :: acc) (by omega) (by omega) (by simp [ha])
    rw [lb_succ, List.append_assoc, List.singleton_append]
    refine Ev.step (fun k => ?_) this
    simp only [lancetref04_bits.l0, Option.bind_some]
    have e1 : (Int.tmod (v : Int) 2 == 1) = v.testBit 0 := by
      have e : Int.tmod (v : Int) 2 = ((v % 2 : Nat) : Int) := by rw [Int.tmod_eq_emod_of_nonneg (by omega)]; omega
      rw [e, Nat.testBit_zero]
      rcases Nat.mod_two_eq_zero_or_one v with h | h <;> simp [h]
    have e2 : (Int.tdiv (v : Int) 2) % 4294967296 = ((v / 2 : Nat) : Int) := by
      rw [Int.tdiv_eq_ediv_of_nonneg (by omega)]; omega
    rw [if_pos (by omega), if_pos (by simp only [List.length_singleton]; omega), w64 (by omega) (by omega), e1, e2]
    rfl
theorem bits_ev (v n : Nat) (hv : v < 4294967296) (hn : n ≤ 40) : Ev (fun k => lancetref04_bits.f k (v : Int) (n : Int)) (lb n v) := by
  have h := bits_l0 n hn n v 0 [] (by omega) hv rfl
  rw [List.append_nil] at h
  exact h
theorem turned_l0 (l : List Bool) (hl : l.length ≤ 64) : ∀ (i : Nat) (acc : List Bool), i ≤ l.length → acc.length + i = l.length → Ev (fun k => lancetref04_turned.l0 k l acc ((i : Int) - 1)) (acc ++ (l.take i).reverse)
  | 0, acc, hi, ha => by
    refine Ev.step (f := fun _ => some acc) (fun k => ?_) (by simpa using Ev.now acc)
    simp only [lancetref04_turned.l0]; rw [if_neg (by omega)]
  | i + 1, acc, hi, ha => by
    have hlt : i < l.length := by omega
    have := turned_l0 l hl i (acc ++ [l[i]]) (by omega) (by simp; omega)
    rw [List.take_succ_eq_append_getElem hlt, List.reverse_append, List.reverse_singleton, ← List.append_assoc]
    refine Ev.step (fun k => ?_) this
    simp only [lancetref04_turned.l0]
    have e0 : (((i + 1 : Nat) : Int) - 1) = (i : Int) := by omega
    have e1 : rdOf false l (i : Int) = l[i] := by simp [rdOf, List.getD_eq_getElem?_getD, hlt]
    have e2 : wrap64 ((i : Int) - 1) = (i : Int) - 1 := by unfold wrap64; omega
    rw [e0, if_pos (by omega), if_pos (by omega), if_pos (by omega), if_pos (by omega), e1, e2]
theorem turned_ev (l : List Bool) (hl : l.length ≤ 64) : Ev (fun k => lancetref04_turned.f k l) l.reverse := by
  have h := turned_l0 l hl l.length [] (Nat.le_refl _) (by simp)
  rw [List.take_length, List.nil_append] at h
  refine Ev.congr (fun k => ?_) h
  have e : wrap64 ((l.length : Int) - 1) = (l.length : Int) - 1 := by unfold wrap64; omega
  unfold lancetref04_turned.f
  rw [e]

theorem num_take_lt (l : List Bool) (k : Nat) (hk : k ≤ 31) : num (l.take k) < 2147483648 := by
  have h := num_lt (l.take k)
  have : (l.take k).length ≤ 31 := by rw [List.length_take]; omega
  exact Nat.lt_of_lt_of_le h (Nat.pow_le_pow_right (by omega) this)

set_option maxRecDepth 100000 in
set_option maxHeartbeats 1000000 in
theorem number_calls (l : List Bool) (hl : l.length ≤ 32) (A : Option Addr) (n c : Nat) (w : World) (hn : l.length = n) (hr : Kd.C Kd.bool w A n l) :
    Calls Try.prog 64 #[.slice A n c] w fun e w' => e = .returned (.int .u32 ((num l : Nat) : Int)) ∧ w = w' := by
  have hn1 : n ≤ l.length := by omega
  have hn2 : l.length ≤ n := by omega
  clear hn
  go_enter Try.func64, Try.ntmps64
  go_wp2
  go_loop [3, 4] (fun v i => ∃ k : Nat, k ≤ n ∧ i = .int .i64 k ∧ v = .int .u32 ((num (l.take k) : Nat) : Int)) (fun _ i => n - (intOf i).toNat)
  case atStart => exact ⟨0, Nat.zero_le _, rfl, rfl⟩
  case round =>
    obtain ⟨k, hk, rfl, rfl⟩ := hrel
    by_cases hlt : k < n
    · have hm := num_take_lt l k (by omega)
      obtain ⟨ad, rfl, hcell⟩ := Kd.at_bool hr (k : Int) (by omega) (by omega)
      rw [Int.toNat_natCast] at hcell
      have hlk : k < l.length := by omega
      have e1 : rdOf false l (k : Int) = l[k] := by simp [rdOf, List.getD_eq_getElem?_getD, hlk]
      rw [e1] at hcell
      have hs := num_snoc (l.take k) l[k]
      rw [← List.take_succ_eq_append_getElem hlk] at hs
      have HS := Lib.hid hs
      clear hs e1
      cases hb : l[k] with
      | true =>
        rw [hb] at hcell HS
        have hm2 : (0 : Int) ≤ ((num (l.take k) : Nat) : Int) := by omega
        go_wp2
        go_round
        case rel => exact ⟨k + 1, by omega, by go_num, by rw [HS.out]; go_num⟩
        case measure => simp [intOf]; omega
      | false =>
        rw [hb] at hcell HS
        go_wp2
        go_round
        case rel => exact ⟨k + 1, by omega, by go_num, by rw [HS.out]; go_num⟩
        case measure => simp [intOf]; omega
    · go_wp2
      go_ret
      exact ⟨by rw [List.take_of_length_le (by omega)]; rfl, rfl⟩

set_option maxRecDepth 100000 in
set_option maxHeartbeats 1000000 in
theorem turn_calls (v n : Nat) (hv : v < 4294967296) (h1 : 1 ≤ n) (h2 : n ≤ 32) (w : World) :
    Calls Try.prog 45 #[.int .u32 (v : Int), .int .i64 (n : Int)] w fun e w' => e = .returned (.int .u32 ((turn n v : Nat) : Int)) ∧ Below w.heap.size w w' := by
  have cb : ∀ w, Calls Try.prog 62 #[.int .u32 (v : Int), .int .i64 (n : Int)] w fun e w' => ∃ A c, e = .returned (.slice A n c) ∧ n ≤ c ∧ Kd.C Kd.bool w' A n (lb n v) ∧ Below w.heap.size w w' := fun w => by
    obtain ⟨kb, hkb⟩ := (bits_ev v n hv (by omega)).rounds
    refine (lancetref04_bits.calls kb v n _ w hkb).mono ?_
    rintro e w1 ⟨v1, rfl, hR1, hb1⟩
    obtain ⟨A1, c1, rfl, hc1, hC1⟩ := Kd.R_reads hR1
    rw [lb_length] at hc1 hC1
    exact ⟨A1, c1, by rw [lb_length], hc1, hC1, hb1⟩
  have ct : ∀ A c w, n ≤ c → Kd.C Kd.bool w A n (lb n v) → Calls Try.prog 63 #[.slice A n c] w fun e w' => ∃ A c, e = .returned (.slice A n c) ∧ n ≤ c ∧ Kd.C Kd.bool w' A n (lb n v).reverse ∧ Below w.heap.size w w' := fun A c w hc hC => by
    obtain ⟨kt, hkt⟩ := (turned_ev (lb n v) (by rw [lb_length]; omega)).rounds
    have h := lancetref04_turned.calls kt A c (lb n v) _ w (by rw [lb_length]; exact hC) (by rw [lb_length]; exact hc) hkt
    rw [lb_length] at h
    refine h.mono ?_
    rintro e w1 ⟨v1, rfl, hR1, hb1⟩
    obtain ⟨A1, c1, rfl, hc1, hC1⟩ := Kd.R_reads hR1
    rw [List.length_reverse, lb_length] at hc1 hC1
    exact ⟨A1, c1, by rw [List.length_reverse, lb_length], hc1, hC1, hb1⟩
  have t1 : decide ((n : Int) < 1) = false := by simp; omega
  have t2 : decide ((n : Int) > 32) = false := by simp; omega
  go_enter Try.func45, Try.ntmps45
  go_wp2_with fail
  refine (cb _).mono ?_
  rintro e w1 ⟨A1, c1, rfl, hc1, hC1, hb1⟩
  go_wp2_with fail
  refine (ct A1 c1 _ hc1 hC1).mono ?_
  rintro e w2 ⟨A2, c2, rfl, hc2, hC2, hb2⟩
  go_wp2_with fail
  refine (number_calls (lb n v).reverse (by rw [List.length_reverse, lb_length]; omega) A2 n c2 _ (by rw [List.length_reverse, lb_length]) hC2).mono ?_
  rintro e w3 ⟨rfl, rfl⟩
  go_wp2
  go_ret
  exact ⟨rfl, hb1.trans (hb2.mono hb1.size)⟩
end Go.Proofs.Ytcmofedfbjpjlaa.CrcRefTurn

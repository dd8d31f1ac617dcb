import Derived.Test.YtcmofedfbjpjlaaRingLaw
/- The law RingOrder, walked. -/
set_option linter.unusedVariables false
set_option linter.unusedSimpArgs false
namespace Go.Proofs.Ytcmofedfbjpjlaa.RingOrderWalk
open Go.RowKit Go.Proofs.YtcmofedfbjpjlaaW.PrintWords Go.Proofs.Ytcmofedfbjpjlaa.Nats Go.Proofs.Ytcmofedfbjpjlaa.RingInt Go.Proofs.Ytcmofedfbjpjlaa.RingQInt Go.Proofs.Ytcmofedfbjpjlaa.RingLaw Go.Proofs.Ytcmofedfbjpjlaa.RingListInt

/-- The last ones that were put: n less their number, and on. -/
def lastOnes (n : Nat) (k : Nat) : List Int := upto (fun j => ((n - k + j : Nat) : Int)) k
theorem lastOnes_cons (n k : Nat) (h : k + 1 ≤ n) : lastOnes n (k + 1) = ((n - (k + 1) : Nat) : Int) :: lastOnes n k := by
  unfold lastOnes
  rw [upto_cons]
  congr 1
  apply upto_congr
  intro i hi
  congr 1
  omega
theorem lastOnes_snoc (n k : Nat) (h : k ≤ n) : lastOnes (n + 1) (k + 1) = lastOnes n k ++ [(n : Int)] := by
  unfold lastOnes
  rw [upto_succ]
  congr 1
  · apply upto_congr
    intro i hi
    congr 1
    omega
  · congr 1
    congr 1
    omega
theorem lastOnes_length (n k : Nat) : (lastOnes n k).length = k := upto_length _ _
theorem lastOnes_get (n k i : Nat) (hi : i < k) : (lastOnes n k).getD i 0 = ((n - k + i : Nat) : Int) := by
  simp [lastOnes, upto, List.getD_eq_getElem?_getD, hi]

/-- Between two acts. -/
def Rel (W : World) (gb ga most N : Nat) (s7 s8 s9 : Value) (wr : World) : Prop :=
  ∃ (i n k lost : Nat) (last : Int), i ≤ N ∧ s9 = .int .i64 (i : Int) ∧ s8 = .int .i64 (n : Int) ∧ s7 = .int .i64 last ∧ Qu wr gb ga most (lastOnes n k) lost ∧ Below W.heap.size W wr ∧ n ≤ i ∧ lost ≤ i ∧ k ≤ n ∧ -1 ≤ last ∧ last < ((n - k : Nat) : Int)

set_option maxRecDepth 100000 in
set_option maxHeartbeats 1000000 in
theorem long (most : Int) (A : Option Addr) (n c : Nat) (h : 300 < n) (W : World) :
    Calls Try.prog 3 #[.int .i64 most, .slice A n c] W fun e w' => e = .returned (.bool true) ∧ Below W.heap.size W w' := by
  have t1 : decide ((n : Int) > 300) = true := by simp; omega
  go_enter Try.func3, Try.ntmps3
  go_wp2_with fail
  refine (awake _).mono ?_
  rintro e w1 ⟨rfl, hb⟩
  go_wp2_with fail
  refine (awake _).mono ?_
  rintro e w2 ⟨rfl, hb2⟩
  go_wp2
  go_ret
  exact ⟨rfl, bthen hb hb2⟩

set_option maxRecDepth 100000 in
set_option maxHeartbeats 1000000 in
theorem bad (most : Int) (A : Option Addr) (n c : Nat) (h : n ≤ 300) (hm : most < 1 ∨ 64 < most) (W : World) :
    Calls Try.prog 3 #[.int .i64 most, .slice A n c] W fun e w' => e = .returned (.bool true) ∧ Below W.heap.size W w' := by
  have t1 : decide ((n : Int) > 300) = false := by simp; omega
  go_enter Try.func3, Try.ntmps3
  go_wp2_with fail
  refine (awake _).mono ?_
  rintro e w1 ⟨rfl, hb⟩
  go_wp2_with fail
  refine (new_bad most hm _).mono ?_
  rintro e w2 ⟨rfl, rfl⟩
  go_wp2
  go_ret
  exact ⟨rfl, hb⟩

set_option maxRecDepth 100000 in
set_option maxHeartbeats 2000000 in
theorem good (most : Nat) (hm1 : 1 ≤ most) (hm2 : most ≤ 64) (A : Option Addr) (n c : Nat) (h : n ≤ 300) (l : List (Bool × Int)) (hl : l.length = n) (W : World) (hA : Acts W A l) :
    Calls Try.prog 3 #[.int .i64 (most : Int), .slice A n c] W fun e w' => e = .returned (.bool true) ∧ Below W.heap.size W w' := by
  have t1 : decide ((n : Int) > 300) = false := by simp; omega
  have Hl := Lib.hid hl
  clear hl
  go_enter Try.func3, Try.ntmps3
  go_wp2_with fail
  refine (awake _).mono ?_
  rintro e w1 ⟨rfl, hb1⟩
  go_wp2_with fail
  refine (newQ most hm1 hm2 _).mono ?_
  rintro e w2 ⟨gb, ga, rfl, hq, hgb, hga, hb2⟩
  have hgb' : W.heap.size ≤ gb := Nat.le_trans hb1.size hgb
  have hga' : W.heap.size ≤ ga := Nat.le_trans hb1.size hga
  clear hgb hga
  have hB := bthen hb1 hb2
  clear hb1 hb2
  go_wp2_with fail
  go_loopw [7, 8, 9] (Rel W gb ga most n) (fun _ _ i _ => n - (intOf i).toNat)
  case atStart => exact ⟨0, 0, 0, 0, -1, Nat.zero_le _, rfl, rfl, rfl, hq, hB, Nat.le_refl _, Nat.le_refl _, Nat.le_refl _, by omega, by simp⟩
  case round =>
    clear hq hB
    obtain ⟨i, m, k, lost, last, hi, rfl, rfl, rfl, hq, hB, hmi, hli, hkm, hlo, hhi⟩ := hrel
    by_cases hlt : i < n
    · have il : i < l.length := by rw [Hl.out]; exact hlt
      obtain ⟨ad, rfl, ct, cx⟩ := (hA.step hB) i il
      obtain ⟨⟨t, x⟩, hp⟩ : ∃ p, l.getD i (false, 0) = p := ⟨_, rfl⟩
      rw [hp] at ct cx
      clear hp
      cases t with
      | true =>
        cases k with
        | zero =>
          rw [show lastOnes m 0 = [] from rfl] at hq
          go_wp2_with fail
          refine (take hq).mono ?_
          rintro e w3 ⟨rfl, hq3, ht3⟩
          have hB3 := ht3.up hB hgb' hga'
          rw [List.headD_nil, List.isEmpty_nil, Bool.not_true]
          go_wp2_with fail
          refine ⟨⟨i + 1, m, 0, lost, last, by omega, by simp, rfl, rfl, hq3, hB3, by omega, by omega, by omega, hlo, hhi⟩, ?_⟩
          simp [intOf]
          omega
        | succ k =>
          obtain ⟨z, hz⟩ : ∃ z, m - (k + 1) = z := ⟨_, rfl⟩
          rw [lastOnes_cons m k hkm, hz] at hq
          have Hz := Lib.hid hz
          rw [hz] at hhi
          have d1 : ¬ ((z : Int) ≤ last) := by omega
          have d2 : ¬ (m ≤ z) := by omega
          have d3 : z < m := by omega
          clear hz
          go_wp2_with fail
          refine (take hq).mono ?_
          rintro e w3 ⟨rfl, hq3, ht3⟩
          have hB3 := ht3.up hB hgb' hga'
          rw [List.headD_cons, List.isEmpty_cons, Bool.not_false]
          rw [List.tail_cons] at hq3
          go_wp2_with fail
          have hz := Hz.out
          refine ⟨⟨i + 1, m, k, lost, (z : Int), by omega, by simp, rfl, rfl, hq3, hB3, by omega, by omega, by omega, by omega, by omega⟩, ?_⟩
          simp [intOf]
          omega
      | false =>
        go_wp2_with fail
        refine (put hq (by omega) (m : Int)).mono ?_
        rintro e w3 ⟨rfl, hq3, ht3⟩
        have hB3 := ht3.up hB hgb' hga'
        have hfit := hq.fits
        rw [lastOnes_length] at hfit
        go_wp2_with fail
        refine ⟨?_, ?_⟩
        · by_cases hk : k < most
          · refine ⟨i + 1, m + 1, k + 1, lost, last, by omega, by simp, by simp, rfl, ?_, hB3, by omega, by omega, by omega, hlo, by omega⟩
            rw [putQ, putL, lastOnes_length, if_pos hk, if_pos hk] at hq3
            rw [lastOnes_snoc m k hkm]
            exact hq3
          · obtain ⟨k', rfl⟩ : ∃ k', k = k' + 1 := ⟨k - 1, by omega⟩
            refine ⟨i + 1, m + 1, k' + 1, lost + 1, last, by omega, by simp, by simp, rfl, ?_, hB3, by omega, by omega, by omega, hlo, by omega⟩
            rw [putQ, putL, lastOnes_length, if_neg hk, if_neg hk, lastOnes_cons m k' hkm, List.tail_cons] at hq3
            rw [lastOnes_snoc m k' (by omega)]
            exact hq3
        · simp [intOf]
          omega
    · obtain rfl : i = n := by omega
      go_wp2_with fail
      refine (listQ hq).mono ?_
      rintro e w3 ⟨v, rfl, hv, hb3⟩
      have hB3 := bthen hB hb3
      rcases hv with ⟨rfl, h0⟩ | ⟨g, cc, rfl, hcc, hcell⟩
      · go_wp2_with fail
        go_loopw [13] (fun s wx => s = .int .i64 0 ∧ wx = w3) (fun _ _ => 0)
        case atStart => exact ⟨rfl, rfl⟩
        case round =>
          obtain ⟨rfl, rfl⟩ := hrel
          go_wp2_with fail
          go_ret
          exact ⟨rfl, hB3⟩
      · rw [lastOnes_length] at hcc hcell ⊢
        go_wp2_with fail
        go_loopw [13] (fun s wx => ∃ j : Nat, j ≤ k ∧ s = .int .i64 (j : Int) ∧ wx = w3) (fun s _ => k - (intOf s).toNat)
        case atStart => exact ⟨0, Nat.zero_le _, rfl, rfl⟩
        case round =>
          obtain ⟨j, hj, rfl, rfl⟩ := hrel
          by_cases hjk : j < k
          · have cj := hcell j hjk
            clear hcell
            rw [lastOnes_get m k j hjk] at cj
            obtain ⟨z, hz⟩ : ∃ z, m - k + j = z := ⟨_, rfl⟩
            rw [hz] at cj
            have d1 : ((z : Int) == (m : Int) - (k : Int) + (j : Int)) = true := by simp; omega
            have d1' : (z : Int) = (m : Int) - (k : Int) + (j : Int) := by omega
            have d2 : last < (m : Int) - (k : Int) + (j : Int) := by omega
            have d3 : ¬ ((m : Int) - (k : Int) + (j : Int) ≤ last) := by omega
            go_wp2_with fail
            refine ⟨⟨j + 1, by omega, by simp, trivial⟩, ?_⟩
            simp [intOf]
            omega
          · obtain rfl : j = k := by omega
            go_wp2_with fail
            go_ret
            exact ⟨rfl, hB3⟩

/-- The law, whatever comes in. -/
theorem walk (most : Int) (A : Option Addr) (n c : Nat) (l : List (Bool × Int)) (hl : l.length = n) (W : World) (hA : Acts W A l) :
    Calls Try.prog 3 #[.int .i64 most, .slice A n c] W fun e w' => e = .returned (.bool true) ∧ Below W.heap.size W w' := by
  by_cases h3 : 300 < n
  · exact long most A n c h3 W
  · by_cases hm : most < 1 ∨ 64 < most
    · exact bad most A n c (by omega) hm W
    · obtain ⟨m, rfl⟩ := Int.eq_ofNat_of_zero_le (show 0 ≤ most by omega)
      exact good m (by omega) (by omega) A n c (by omega) l hl W hA
end Go.Proofs.Ytcmofedfbjpjlaa.RingOrderWalk

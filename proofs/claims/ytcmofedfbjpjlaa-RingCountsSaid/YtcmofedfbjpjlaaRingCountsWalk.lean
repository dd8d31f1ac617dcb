import Derived.Test.YtcmofedfbjpjlaaRingLaw
import Derived.Test.YtcmofedfbjpjlaaRingListAct
/- The law RingCounts, walked. -/
set_option linter.unusedVariables false
set_option linter.unusedSimpArgs false
namespace Go.Proofs.Ytcmofedfbjpjlaa.RingCountsWalk
open Go.RowKit Go.Proofs.YtcmofedfbjpjlaaW.PrintWords Go.Proofs.Ytcmofedfbjpjlaa.Nats Go.Proofs.Ytcmofedfbjpjlaa.RingLaw Go.Proofs.Ytcmofedfbjpjlaa.RingAct

/-- So many wait, so many were lost. -/
def Cn (W : World) (gb ga most n lost : Nat) : Prop := ∃ vs f, Rg W gb ga most vs f n lost
theorem Cn.step {W w2 : World} {gb ga most n lost : Nat} (h : Cn W gb ga most n lost) (hb : Below W.heap.size W w2) : Cn w2 gb ga most n lost := by
  obtain ⟨vs, f, h1⟩ := h
  exact ⟨vs, f, h1.step hb⟩
theorem Cn.fits {W : World} {gb ga most n lost : Nat} (h : Cn W gb ga most n lost) : n ≤ most ∧ 1 ≤ most ∧ most ≤ 64 := by
  obtain ⟨vs, f, h1⟩ := h
  exact ⟨h1.nl, h1.m1, h1.m2⟩
def putN (most n : Nat) : Nat := if n < most then n + 1 else n
def putL (most n lost : Nat) : Nat := if n < most then lost else lost + 1
theorem putC {W : World} {gb ga most n lost : Nat} (h : Cn W gb ga most n lost) (hl : lost < 1000) (p : Bool) (x : Int) :
    Calls Try.prog 28 #[.pointer (some ⟨gb, 0, none⟩), .agg #[.bool p, .int .i64 x]] W fun e w' => e = .returned (.bool (decide (n < most))) ∧ Cn w' gb ga most (putN most n) (putL most n lost) ∧ Turn gb ga W w' := by
  obtain ⟨vs, f, h1⟩ := h
  by_cases hlt : n < most
  · refine (put_room h1 hlt p x).mono ?_
    rintro e w' ⟨rfl, h3, h4⟩
    rw [putN, putL, if_pos hlt, if_pos hlt]
    exact ⟨by simp [hlt], ⟨_, _, h3⟩, h4⟩
  · obtain rfl : n = most := by have := h1.nl; omega
    refine (put_full h1 hl p x).mono ?_
    rintro e w' ⟨rfl, h3, h4⟩
    rw [putN, putL, if_neg hlt, if_neg hlt]
    exact ⟨by simp, ⟨_, _, h3⟩, h4⟩
theorem takeC {W : World} {gb ga most n lost : Nat} (h : Cn W gb ga most n lost) :
    Calls Try.prog 27 #[.pointer (some ⟨gb, 0, none⟩)] W fun e w' => ∃ q y, e = .returned (.tuple #[.agg #[.bool q, .int .i64 y], .bool (decide (0 < n))]) ∧ Cn w' gb ga most (n - 1) lost ∧ Turn gb ga W w' := by
  obtain ⟨vs, f, h1⟩ := h
  cases n with
  | zero =>
    refine (take_none h1).mono ?_
    rintro e w' ⟨⟨q, y, rfl⟩, hb⟩
    exact ⟨q, y, rfl, ⟨vs, f, h1.step hb⟩, Turn.of_below hb⟩
  | succ n =>
    refine (take_one h1).mono ?_
    rintro e w' ⟨⟨q, y, rfl⟩, h3, h4⟩
    exact ⟨q, y, by simp, ⟨_, _, h3⟩, h4⟩
theorem listC {W : World} {gb ga most n lost : Nat} (h : Cn W gb ga most n lost) :
    Calls Try.prog 31 #[.pointer (some ⟨gb, 0, none⟩)] W fun e w' => ∃ A c, e = .returned (.slice A n c) ∧ Below W.heap.size W w' := by
  obtain ⟨vs, f, h1⟩ := h
  refine (RingListAct.list h1).mono ?_
  rintro e w' ⟨v, rfl, h3, h4⟩
  rcases h3.2 with ⟨rfl, rfl⟩ | ⟨g, cap, cur, rfl, _⟩
  · exact ⟨_, _, rfl, h4⟩
  · exact ⟨_, _, rfl, h4⟩

/-- Between two acts. -/
def Rel (W : World) (gb ga most N : Nat) (s7 s8 s9 s10 : Value) (wr : World) : Prop :=
  ∃ (i p t n lost : Nat), i ≤ N ∧ s10 = .int .i64 (i : Int) ∧ s7 = .int .i64 (p : Int) ∧ s8 = .int .i64 (t : Int) ∧ s9 = .int .i64 (lost : Int) ∧ Cn wr gb ga most n lost ∧ Below W.heap.size W wr ∧ p ≤ i ∧ t ≤ i ∧ lost ≤ i ∧ p = t + lost + n

set_option maxRecDepth 100000 in
set_option maxHeartbeats 1000000 in
theorem long (most : Int) (A : Option Addr) (n c : Nat) (h : 300 < n) (W : World) :
    Calls Try.prog 5 #[.int .i64 most, .slice A n c] W fun e w' => e = .returned (.bool true) ∧ Below W.heap.size W w' := by
  have t1 : decide ((n : Int) > 300) = true := by simp; omega
  go_enter Try.func5, Try.ntmps5
  go_wp2_with fail
  refine (awake _).mono ?_
  rintro e w1 ⟨rfl, hb⟩
  go_wp2_with fail
  refine (awake _).mono ?_
  rintro e w2 ⟨rfl, hb2⟩
  go_wp2
  go_ret
  exact ⟨rfl, bthen hb hb2⟩

set_option maxRecDepth 100000 in
set_option maxHeartbeats 1000000 in
theorem bad (most : Int) (A : Option Addr) (n c : Nat) (h : n ≤ 300) (hm : most < 1 ∨ 64 < most) (W : World) :
    Calls Try.prog 5 #[.int .i64 most, .slice A n c] W fun e w' => e = .returned (.bool true) ∧ Below W.heap.size W w' := by
  have t1 : decide ((n : Int) > 300) = false := by simp; omega
  go_enter Try.func5, Try.ntmps5
  go_wp2_with fail
  refine (awake _).mono ?_
  rintro e w1 ⟨rfl, hb⟩
  go_wp2_with fail
  refine (new_bad most hm _).mono ?_
  rintro e w2 ⟨rfl, rfl⟩
  go_wp2
  go_ret
  exact ⟨rfl, hb⟩

theorem add_next (ad : Addr) (k : Nat) : (⟨(ad.add k).block, (ad.add k).off + 1, none⟩ : Addr) = ad.add (k + 1) := by
  unfold Addr.add
  by_cases h : k = 0
  · subst h
    simp
  · rw [if_neg h, if_neg (by omega)]
    simp [Nat.add_assoc]

set_option maxRecDepth 100000 in
set_option maxHeartbeats 2000000 in
theorem good (most : Nat) (hm1 : 1 ≤ most) (hm2 : most ≤ 64) (A : Option Addr) (n c : Nat) (h : n ≤ 300) (l : List (Bool × Int)) (hl : l.length = n) (W : World) (hA : Acts W A l) :
    Calls Try.prog 5 #[.int .i64 (most : Int), .slice A n c] W fun e w' => e = .returned (.bool true) ∧ Below W.heap.size W w' := by
  have t1 : decide ((n : Int) > 300) = false := by simp; omega
  have Hl := Lib.hid hl
  clear hl
  go_enter Try.func5, Try.ntmps5
  go_wp2_with fail
  refine (awake _).mono ?_
  rintro e w1 ⟨rfl, hb1⟩
  go_wp2_with fail
  refine (new_ok most hm1 hm2 _).mono ?_
  rintro e w2 ⟨gb, ga, rfl, hR, hgb, hga, hb2⟩
  have hq : Cn w2 gb ga most 0 0 := ⟨_, _, hR⟩
  have hgb' : W.heap.size ≤ gb := Nat.le_trans hb1.size hgb
  have hga' : W.heap.size ≤ ga := Nat.le_trans hb1.size hga
  clear hgb hga hR
  have hB := bthen hb1 hb2
  clear hb1 hb2
  go_wp2_with fail
  go_loopw [7, 8, 9, 10] (Rel W gb ga most n) (fun _ _ _ i _ => n - (intOf i).toNat)
  case atStart => exact ⟨0, 0, 0, 0, 0, Nat.zero_le _, rfl, rfl, rfl, rfl, hq, hB, Nat.le_refl _, Nat.le_refl _, Nat.le_refl _, rfl⟩
  case round =>
    clear hq hB
    obtain ⟨i, p, t, k, lost, hi, rfl, rfl, rfl, rfl, hq, hB, hpi, hti, hli, hp⟩ := hrel
    have HP := Lib.hid hp
    by_cases hlt : i < n
    · have il : i < l.length := by rw [Hl.out]; exact hlt
      obtain ⟨ad, rfl, ct, cx⟩ := (hA.step hB) i il
      obtain ⟨⟨tk, x⟩, hpp⟩ : ∃ p, l.getD i (false, 0) = p := ⟨_, rfl⟩
      rw [hpp] at ct cx
      rw [← add_next] at cx
      clear hpp hp
      cases tk with
      | true =>
        go_wp2_with fail
        refine (takeC hq).mono ?_
        rintro e w3 ⟨q, y, rfl, hq3, ht3⟩
        have hB3 := ht3.up hB hgb' hga'
        by_cases hk : 0 < k
        · have d : decide (0 < k) = true := by simp [hk]
          rw [d]
          go_wp2_with fail
          have hp := HP.out
          have hba := below_alloc (Below.refl w3.heap.size w3) (.cells #[.bool q, .int .i64 y] 29)
          refine ⟨⟨i + 1, p, t + 1, k - 1, lost, by omega, by simp, rfl, by simp, rfl, hq3.step hba, bthen hB3 hba, by omega, by omega, by omega, by omega⟩, ?_⟩
          simp [intOf]
          omega
        · have d : decide (0 < k) = false := by simp; omega
          rw [d]
          go_wp2_with fail
          have hp := HP.out
          have hba := below_alloc (Below.refl w3.heap.size w3) (.cells #[.bool q, .int .i64 y] 29)
          refine ⟨⟨i + 1, p, t, k - 1, lost, by omega, by simp, rfl, rfl, rfl, hq3.step hba, bthen hB3 hba, by omega, by omega, by omega, by omega⟩, ?_⟩
          simp [intOf]
          omega
      | false =>
        go_wp2_with fail
        refine (putC hq (by omega) false x).mono ?_
        rintro e w3 ⟨rfl, hq3, ht3⟩
        have hB3 := ht3.up hB hgb' hga'
        have hfit := hq.fits
        by_cases hk : k < most
        · have d : decide (k < most) = true := by simp [hk]
          rw [d]
          rw [putN, putL, if_pos hk, if_pos hk] at hq3
          go_wp2_with fail
          have hp := HP.out
          refine ⟨⟨i + 1, p + 1, t, k + 1, lost, by omega, by simp, by simp, rfl, rfl, hq3, hB3, by omega, by omega, by omega, by omega⟩, ?_⟩
          simp [intOf]
          omega
        · have d : decide (k < most) = false := by simp; omega
          rw [d]
          rw [putN, putL, if_neg hk, if_neg hk] at hq3
          go_wp2_with fail
          have hp := HP.out
          refine ⟨⟨i + 1, p + 1, t, k, lost + 1, by omega, by simp, by simp, rfl, by simp, hq3, hB3, by omega, by omega, by omega, by omega⟩, ?_⟩
          simp [intOf]
          omega
    · obtain rfl : i = n := by omega
      have hfit := hq.fits
      obtain ⟨hf1, hf2, hf3⟩ := hfit
      have hpe : (p : Int) = (t : Int) + (lost : Int) + (k : Int) := by omega
      have Hpe := Lib.hid hpe
      clear hp hpe
      go_wp2_with fail
      obtain ⟨vs, f, hR⟩ := hq
      refine (len hR).mono ?_
      rintro e w3 ⟨rfl, hb3⟩
      have hR3 := hR.step hb3
      have hB3 := bthen hB hb3
      clear hR hB hb3
      have hpe : ((p : Int) == (t : Int) + (lost : Int) + (k : Int)) = true := by simp; exact Hpe.out
      have hpe2 : (p : Int) = (t : Int) + (lost : Int) + (k : Int) := Hpe.out
      go_wp2_with fail
      refine (RingAct.lost hR3).mono ?_
      rintro e w4 ⟨rfl, hb4⟩
      have hR4 := hR3.step hb4
      have hB4 := bthen hB3 hb4
      clear hR3 hB3 hb4
      go_wp2_with fail
      refine (len hR4).mono ?_
      rintro e w5 ⟨rfl, hb5⟩
      have hR5 := hR4.step hb5
      have hB5 := bthen hB4 hb5
      clear hR4 hB4 hb5
      go_wp2_with fail
      refine (listC ⟨vs, f, hR5⟩).mono ?_
      rintro e w6 ⟨A6, c6, rfl, hb6⟩
      have hR6 := hR5.step hb6
      have hB6 := bthen hB5 hb6
      clear hR5 hB5 hb6
      go_wp2_with fail
      refine (len hR6).mono ?_
      rintro e w7 ⟨rfl, hb7⟩
      have hB7 := bthen hB6 hb7
      go_wp2_with fail
      go_ret
      exact ⟨by simp, hB7⟩

/-- The law, whatever comes in. -/
theorem walk (most : Int) (A : Option Addr) (n c : Nat) (l : List (Bool × Int)) (hl : l.length = n) (W : World) (hA : Acts W A l) :
    Calls Try.prog 5 #[.int .i64 most, .slice A n c] W fun e w' => e = .returned (.bool true) ∧ Below W.heap.size W w' := by
  by_cases h3 : 300 < n
  · exact long most A n c h3 W
  · by_cases hm : most < 1 ∨ 64 < most
    · exact bad most A n c (by omega) hm W
    · obtain ⟨m, rfl⟩ := Int.eq_ofNat_of_zero_le (show 0 ≤ most by omega)
      exact good m (by omega) (by omega) A n c (by omega) l hl W hA
end Go.Proofs.Ytcmofedfbjpjlaa.RingCountsWalk

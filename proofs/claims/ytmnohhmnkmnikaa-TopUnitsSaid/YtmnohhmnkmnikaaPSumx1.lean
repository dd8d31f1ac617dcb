-- PRINTED BY print.sh 35421559b90ae4d0a3588c463048766b98c2df88dd9212a6774a882060cdf62d: not written by this session
import Derived.Test.YtmnohhmnkmnikaaPSumx0
namespace Go.Proofs.Ytmnohhmnkmnikaa.PSum
open Go.RowKit Go.Proofs.YtmnohhmnkmnikaaW.PrintWords Go.Proofs.YtmnohhmnkmnikaaW.PrintLast Go.Proofs.YtmnohhmnkmnikaaW.PrintMore
attribute [local go_sem] max2_int min2_int max_two min_two max_three min_three max_four min_four   -- for this text's walks alone
set_option linter.unusedVariables false
set_option linter.unusedSimpArgs false

/-! ### crc_below: function 95 -/
def crc_below.f (a0 : Int) (a1 : Int) : Option (Bool) := if a1 = 32 then (some true) else (if 0 ≤ a1 then (some ((shr .u32 a0 a1) == 0)) else (none))
set_option maxHeartbeats 8000000 in
set_option maxRecDepth 100000 in
theorem crc_below.calls (a0 : Int) (a1 : Int) (r : Bool) (w : World) (h : crc_below.f a0 a1 = some r) :
    Calls Try.prog 95 #[.int .u32 a0, .int .i64 a1] w fun e w' => e = .returned (.bool r) ∧ Drawn0 w w' := by
  have H : (if a1 = 32 then (some true) else (if 0 ≤ a1 then (some ((shr .u32 a0 a1) == 0)) else (none))) = some r := h
  clear h
  by_cases c3 : a1 = 32
  · rw [if_pos c3] at H
    have c3b0 : (a1 == 32) = true := beq_iff_eq.mpr c3
    have c3b1 : (a1 != 32) = false := bne_eq_false_iff_eq.mpr c3
    clear c3
    obtain rfl := Option.some.inj H
    go_enter Try.func95, Try.ntmps95
    go_wp2
    go_ret
    exact ⟨by first | rfl | (simp; done) | (simp [*]; done), by repeat (first | exact Drawn0.refl _ | apply Drawn0.step)⟩
  · rw [if_neg c3] at H
    have c3b0 : (a1 == 32) = false := beq_eq_false_iff_ne.mpr c3
    have c3b1 : (a1 != 32) = true := bne_iff_ne.mpr c3
    by_cases c4 : 0 ≤ a1
    · rw [if_pos c4] at H
      have c4b0 := eq_true c4
      have c4b1 : decide (0 ≤ a1) = true := decide_eq_true c4
      clear c4
      obtain ⟨ji5, hji5⟩ : ∃ j_ : Int, (shr .u32 a0 a1) = j_ := ⟨_, rfl⟩
      replace H : (some ((ji5) == 0)) = some r := by first | (rw [hji5] at H; exact H) | (simp only [hji5] at H ⊢; exact H)
      have hji5_ : (a0 / 2 ^ min a1.toNat 32) = ji5 := hji5
      have hji5z : a1 ≤ 32 → (a0 / 2 ^ a1.toNat) = ji5 := shr_small hji5
      obtain rfl := Option.some.inj H
      go_enter Try.func95, Try.ntmps95
      go_wp2
      go_ret
      exact ⟨by first | rfl | (simp; done) | (simp only [← hji5] <;> (first | rfl | simp)) | (simp [*]; done), by repeat (first | exact Drawn0.refl _ | apply Drawn0.step)⟩
    · rw [if_neg c4] at H
      exact absurd H (by simp)

/-! ### crc_Turn: function 99 -/
mutual
def crc_Turn.j0 : Nat → Int → Int → Bool → Option (Int)
  | 0, _, _, _ => none
  | k + 1, x0, x1, x11 => if x11 = true then (some 0) else (crc_Turn.l0 k x0 0 x1 0)
def crc_Turn.l0 : Nat → Int → Int → Int → Int → Option (Int)
  | 0, _, _, _, _ => none
  | k + 1, x0, x5, x12, x13 => if x13 < x12 then (crc_Turn.l0 k (x0 / 2) (Go.bits .or .u32 ((x5 * 2) % 4294967296) (Go.bits .and .u32 x0 1)) x12 (wrap64 (x13 + 1))) else (some x5)
end
def crc_Turn.f (k : Nat) (a0 : Int) (a1 : Int) : Option (Int) := if a1 < 1 then (crc_Turn.j0 k a0 a1 true) else (crc_Turn.j0 k a0 a1 (decide (a1 > 32)))
theorem crc_Turn.mono_l : ∀ k, (∀ y0 y1 y2, LeO (crc_Turn.j0 k y0 y1 y2) (crc_Turn.j0 (k + 1) y0 y1 y2)) ∧ (∀ y0 y1 y2 y3, LeO (crc_Turn.l0 k y0 y1 y2 y3) (crc_Turn.l0 (k + 1) y0 y1 y2 y3))
  | 0 => ⟨fun _ _ _ r h => by simp [crc_Turn.j0] at h, fun _ _ _ _ r h => by simp [crc_Turn.l0] at h⟩
  | k + 1 => by
    obtain ⟨ih0, ih1⟩ := crc_Turn.mono_l k
    refine ⟨?_, ?_⟩
    · intro y0 y1 y2
      unfold crc_Turn.j0
      repeat' first
      | (with_reducible exact ih0 _ _ _)
      | (with_reducible exact ih1 _ _ _ _)
      | (with_reducible exact LeO.refl _)
      | (with_reducible exact LeO.none _)
      | (with_reducible refine LeO.ite ?_ ?_)
      | (with_reducible refine LeO.bind ?_ (fun _ => ?_))
      | exact ih0 _ _ _
      | exact ih1 _ _ _ _
      | exact LeO.none _
      | refine LeO.ite ?_ ?_
      | refine LeO.bind ?_ (fun _ => ?_)
    · intro y0 y1 y2 y3
      unfold crc_Turn.l0
      repeat' first
      | (with_reducible exact ih0 _ _ _)
      | (with_reducible exact ih1 _ _ _ _)
      | (with_reducible exact LeO.refl _)
      | (with_reducible exact LeO.none _)
      | (with_reducible refine LeO.ite ?_ ?_)
      | (with_reducible refine LeO.bind ?_ (fun _ => ?_))
      | exact ih0 _ _ _
      | exact ih1 _ _ _ _
      | exact LeO.none _
      | refine LeO.ite ?_ ?_
      | refine LeO.bind ?_ (fun _ => ?_)
theorem crc_Turn.mono : ∀ a0 a1 k, LeO (crc_Turn.f k a0 a1) (crc_Turn.f (k + 1) a0 a1) := by
  intro a0 a1 k
  obtain ⟨ih0, ih1⟩ := crc_Turn.mono_l k
  unfold crc_Turn.f
  repeat' first
      | (with_reducible exact ih0 _ _ _)
      | (with_reducible exact ih1 _ _ _ _)
      | (with_reducible exact LeO.refl _)
      | (with_reducible exact LeO.none _)
      | (with_reducible refine LeO.ite ?_ ?_)
      | (with_reducible refine LeO.bind ?_ (fun _ => ?_))
      | exact ih0 _ _ _
      | exact ih1 _ _ _ _
      | exact LeO.none _
      | refine LeO.ite ?_ ?_
      | refine LeO.bind ?_ (fun _ => ?_)
set_option maxHeartbeats 8000000 in
set_option maxRecDepth 100000 in
theorem crc_Turn.calls (k : Nat) (a0 : Int) (a1 : Int) (r : Int) (w : World) (h : crc_Turn.f k a0 a1 = some r) :
    Calls Try.prog 99 #[.int .u32 a0, .int .i64 a1] w fun e w' => e = .returned (.int .u32 r) ∧ Drawn0 w w' := by
  have H : (if a1 < 1 then (crc_Turn.j0 k a0 a1 true) else (crc_Turn.j0 k a0 a1 (decide (a1 > 32)))) = some r := h
  clear h
  have HC3 := Aside0.mk H
  clear H
  go_enter Try.func99, Try.ntmps99
  go_upto_region 1 with (fail)
  go_cut [11] (fun v11 wc => ∃ (kq : Nat) (x11_2 : Bool), v11 = .bool x11_2 ∧ Aside0 (crc_Turn.j0 kq a0 a1 x11_2 = some r) ∧ Aside0 (kq ≤ k) ∧ Drawn0 w wc)
  case first =>
    have H := HC3.out
    clear HC3
    by_cases c4 : a1 < 1
    · rw [if_pos c4] at H
      have c4b0 : decide (a1 < 1) = true := decide_eq_true c4
      clear c4
      (first | rw [c4b0] | (simp only [i64_w, i32_w]; rw [c4b0]) | skip)
      have H' := Aside0.mk H
      clear H
      go_wp2
      go_meet
      case rel => exact ⟨_, (true), (by first | rfl | (simp; done) | (simp [*]; done)), H', ⟨by first | omega | exact Nat.le_refl _⟩, by repeat (first | exact Drawn0.refl _ | apply Drawn0.step)⟩
    · rw [if_neg c4] at H
      have c4b0 : decide (a1 < 1) = false := decide_eq_false c4
      clear c4
      (first | rw [c4b0] | (simp only [i64_w, i32_w]; rw [c4b0]) | skip)
      have H' := Aside0.mk H
      clear H
      go_wp2
      go_meet
      case rel => exact ⟨_, (decide (a1 > 32)), (by first | rfl | (simp; done) | (simp [*]; done)), H', ⟨by first | omega | exact Nat.le_refl _⟩, by repeat (first | exact Drawn0.refl _ | apply Drawn0.step)⟩
  case rest =>
    clear HC3
    try clear p2
    try clear c4
    try clear c4b0
    obtain ⟨kq, x11_2, rfl, HA, HJ2, ⟨mc2, rfl⟩⟩ := hcut
    cases kq with
    | zero => exact absurd HA.out (by simp [crc_Turn.j0])
    | succ kj2 =>
      have H := HA.out
      clear HA
      simp only [crc_Turn.j0] at H
      by_cases c5 : x11_2 = true
      · subst c5
        have H1 : (some 0) = some r := by rw [if_pos rfl] at H; exact H
        clear H
        have H := H1
        clear H1
        obtain rfl := Option.some.inj H
        go_wp2
        go_ret
        exact ⟨by first | rfl | (simp; done) | (simp [*]; done), by repeat (first | exact Drawn0.refl _ | apply Drawn0.step)⟩
      · replace c5 := Bool.eq_false_iff.mpr c5
        subst c5
        have H1 : (crc_Turn.l0 kj2 a0 0 a1 0) = some r := by rw [if_neg (show ¬ (false = true) by decide)] at H; exact H
        clear H
        have H := H1
        clear H1
        have H' := Aside0.mk H
        clear H
        go_wp2
        go_loopg [0, 5, 13] kj2 (fun kq v0 v5 v13 w' => ∃ (x0_2 : Int) (x5_2 : Int) (x13_2 : Int), v0 = .int .u32 x0_2 ∧ v5 = .int .u32 x5_2 ∧ v13 = .int .i64 x13_2 ∧ Aside0 (crc_Turn.l0 kq x0_2 x5_2 a1 x13_2 = some r) ∧ Aside0 (kq ≤ kj2) ∧ Drawn0 w w')
        case atStart => exact ⟨(a0), (0), (0), (by first | rfl | (simp; done) | (simp [*]; done)), (by first | rfl | (simp; done) | (simp [*]; done)), (by first | rfl | (simp; done) | (simp [*]; done)), H', ⟨Nat.le_refl _⟩, by repeat (first | exact Drawn0.refl _ | apply Drawn0.step)⟩
        case round =>
          clear H'
          try clear c2
          try clear p2
          try clear c4
          try clear c4b0
          try clear c5
          try clear p2
          obtain ⟨x0_2, x5_2, x13_2, rfl, rfl, rfl, HA, HK2, ⟨m2, rfl⟩⟩ := hrel
          cases gk with
          | zero => exact absurd HA.out (by simp [crc_Turn.l0])
          | succ k2 =>
            have H := HA.out
            clear HA
            simp only [crc_Turn.l0] at H
            by_cases c6 : x13_2 < a1
            · rw [if_pos c6] at H
              have c6b0 : decide (x13_2 < a1) = true := decide_eq_true c6
              clear c6
              have H' := Aside0.mk H
              clear H
              go_wp2
              go_roundg k2
              case measure => have := HJ2.out; have := HK2.out; omega
              case rel => exact ⟨(x0_2 / 2), (Go.bits .or .u32 ((x5_2 * 2) % 4294967296) (Go.bits .and .u32 x0_2 1)), (wrap64 (x13_2 + 1)), (by first | rfl | (simp; done) | (simp [*]; done)), (by first | rfl | (simp; done) | (simp [*]; done)), (by first | rfl | (simp; done) | (simp [*]; done)), H', ⟨by have := HJ2.out; have := HK2.out; omega⟩, by repeat (first | exact Drawn0.refl _ | apply Drawn0.step)⟩
            · rw [if_neg c6] at H
              have c6b0 : decide (x13_2 < a1) = false := decide_eq_false c6
              clear c6
              obtain rfl := Option.some.inj H
              go_wp2
              go_ret
              exact ⟨by first | rfl | (simp; done) | (simp [*]; done), by repeat (first | exact Drawn0.refl _ | apply Drawn0.step)⟩

/-! ### crc_divide_uint8: function 96 -/
mutual
def crc_divide_uint8.l0 : Nat → Int → Int → Bool → Int → List Int → Int → Int → Option (Int)
  | 0, _, _, _, _, _, _, _ => none
  | k + 1, x0, x1, x3, x11, x17, x18, x19 => if x19 < x18 then (if 0 ≤ x19 then (if x19 < (x17.length : Int) then (if x3 = true then ((crc_Turn.f k ((rd x17 x19) % 4294967296) 8).bind fun t102 => (crc_divide_uint8.j1 k x0 x1 x3 x11 t102 x17 x18 x19)) else (crc_divide_uint8.j1 k x0 x1 x3 x11 ((rd x17 x19) % 4294967296) x17 x18 x19)) else (none)) else (none)) else (some x11)
def crc_divide_uint8.j1 : Nat → Int → Int → Bool → Int → Int → List Int → Int → Int → Option (Int)
  | 0, _, _, _, _, _, _, _, _ => none
  | k + 1, x0, x1, x3, x11, x14, x17, x18, x19 => if 0 ≤ (wrap64 (x0 - 8)) then (crc_divide_uint8.l1 k x0 x1 x3 (Go.bits .xor .u8 x11 (shl .u8 ((x14) % 256) (wrap64 (x0 - 8)))) x17 x18 x19 0) else (none)
def crc_divide_uint8.l1 : Nat → Int → Int → Bool → Int → List Int → Int → Int → Int → Option (Int)
  | 0, _, _, _, _, _, _, _, _ => none
  | k + 1, x0, x1, x3, x11, x17, x18, x19, x35 => if x35 < 8 then (if 0 ≤ (wrap64 (x0 - 1)) then (if (shr .u8 x11 (wrap64 (x0 - 1))) = 1 then (crc_divide_uint8.l1 k x0 x1 x3 (Go.bits .xor .u8 ((x11 * 2) % 256) x1) x17 x18 x19 (wrap64 (x35 + 1))) else (crc_divide_uint8.l1 k x0 x1 x3 ((x11 * 2) % 256) x17 x18 x19 (wrap64 (x35 + 1)))) else (none)) else (crc_divide_uint8.l0 k x0 x1 x3 x11 x17 x18 (wrap64 (x19 + 1)))
end
def crc_divide_uint8.f (k : Nat) (a0 : Int) (a1 : Int) (a2 : Int) (a3 : Bool) (l4 : List Int) : Option (Int) := crc_divide_uint8.l0 k a0 a1 a3 a2 l4 (l4.length : Int) 0
theorem crc_divide_uint8.mono_l : ∀ k, (∀ y0 y1 y2 y3 y4 y5 y6, LeO (crc_divide_uint8.l0 k y0 y1 y2 y3 y4 y5 y6) (crc_divide_uint8.l0 (k + 1) y0 y1 y2 y3 y4 y5 y6)) ∧ (∀ y0 y1 y2 y3 y4 y5 y6 y7, LeO (crc_divide_uint8.j1 k y0 y1 y2 y3 y4 y5 y6 y7) (crc_divide_uint8.j1 (k + 1) y0 y1 y2 y3 y4 y5 y6 y7)) ∧ (∀ y0 y1 y2 y3 y4 y5 y6 y7, LeO (crc_divide_uint8.l1 k y0 y1 y2 y3 y4 y5 y6 y7) (crc_divide_uint8.l1 (k + 1) y0 y1 y2 y3 y4 y5 y6 y7))
  | 0 => ⟨fun _ _ _ _ _ _ _ r h => by simp [crc_divide_uint8.l0] at h, fun _ _ _ _ _ _ _ _ r h => by simp [crc_divide_uint8.j1] at h, fun _ _ _ _ _ _ _ _ r h => by simp [crc_divide_uint8.l1] at h⟩
  | k + 1 => by
    obtain ⟨ih0, ih1, ih2⟩ := crc_divide_uint8.mono_l k
    refine ⟨?_, ?_, ?_⟩
    · intro y0 y1 y2 y3 y4 y5 y6
      unfold crc_divide_uint8.l0
      repeat' first
      | (with_reducible exact ih0 _ _ _ _ _ _ _)
      | (with_reducible exact ih1 _ _ _ _ _ _ _ _)
      | (with_reducible exact ih2 _ _ _ _ _ _ _ _)
      | (with_reducible exact crc_Turn.mono _ _ _)
      | (with_reducible exact LeO.refl _)
      | (with_reducible exact LeO.none _)
      | (with_reducible refine LeO.ite ?_ ?_)
      | (with_reducible refine LeO.bind ?_ (fun _ => ?_))
      | exact ih0 _ _ _ _ _ _ _
      | exact ih1 _ _ _ _ _ _ _ _
      | exact ih2 _ _ _ _ _ _ _ _
      | exact crc_Turn.mono _ _ _
      | exact LeO.none _
      | refine LeO.ite ?_ ?_
      | refine LeO.bind ?_ (fun _ => ?_)
    · intro y0 y1 y2 y3 y4 y5 y6 y7
      unfold crc_divide_uint8.j1
      repeat' first
      | (with_reducible exact ih0 _ _ _ _ _ _ _)
      | (with_reducible exact ih1 _ _ _ _ _ _ _ _)
      | (with_reducible exact ih2 _ _ _ _ _ _ _ _)
      | (with_reducible exact crc_Turn.mono _ _ _)
      | (with_reducible exact LeO.refl _)
      | (with_reducible exact LeO.none _)
      | (with_reducible refine LeO.ite ?_ ?_)
      | (with_reducible refine LeO.bind ?_ (fun _ => ?_))
      | exact ih0 _ _ _ _ _ _ _
      | exact ih1 _ _ _ _ _ _ _ _
      | exact ih2 _ _ _ _ _ _ _ _
      | exact crc_Turn.mono _ _ _
      | exact LeO.none _
      | refine LeO.ite ?_ ?_
      | refine LeO.bind ?_ (fun _ => ?_)
    · intro y0 y1 y2 y3 y4 y5 y6 y7
      unfold crc_divide_uint8.l1
      repeat' first
      | (with_reducible exact ih0 _ _ _ _ _ _ _)
      | (with_reducible exact ih1 _ _ _ _ _ _ _ _)
      | (with_reducible exact ih2 _ _ _ _ _ _ _ _)
      | (with_reducible exact crc_Turn.mono _ _ _)
      | (with_reducible exact LeO.refl _)
      | (with_reducible exact LeO.none _)
      | (with_reducible refine LeO.ite ?_ ?_)
      | (with_reducible refine LeO.bind ?_ (fun _ => ?_))
      | exact ih0 _ _ _ _ _ _ _
      | exact ih1 _ _ _ _ _ _ _ _
      | exact ih2 _ _ _ _ _ _ _ _
      | exact crc_Turn.mono _ _ _
      | exact LeO.none _
      | refine LeO.ite ?_ ?_
      | refine LeO.bind ?_ (fun _ => ?_)
theorem crc_divide_uint8.mono : ∀ a0 a1 a2 a3 a4 k, LeO (crc_divide_uint8.f k a0 a1 a2 a3 a4) (crc_divide_uint8.f (k + 1) a0 a1 a2 a3 a4) := by
  intro a0 a1 a2 a3 a4 k
  obtain ⟨ih0, ih1, ih2⟩ := crc_divide_uint8.mono_l k
  unfold crc_divide_uint8.f
  repeat' first
      | (with_reducible exact ih0 _ _ _ _ _ _ _)
      | (with_reducible exact ih1 _ _ _ _ _ _ _ _)
      | (with_reducible exact ih2 _ _ _ _ _ _ _ _)
      | (with_reducible exact crc_Turn.mono _ _ _)
      | (with_reducible exact LeO.refl _)
      | (with_reducible exact LeO.none _)
      | (with_reducible refine LeO.ite ?_ ?_)
      | (with_reducible refine LeO.bind ?_ (fun _ => ?_))
      | exact ih0 _ _ _ _ _ _ _
      | exact ih1 _ _ _ _ _ _ _ _
      | exact ih2 _ _ _ _ _ _ _ _
      | exact crc_Turn.mono _ _ _
      | exact LeO.none _
      | refine LeO.ite ?_ ?_
      | refine LeO.bind ?_ (fun _ => ?_)
set_option maxHeartbeats 8000000 in
set_option maxRecDepth 100000 in
theorem crc_divide_uint8.calls (k : Nat) (a0 : Int) (a1 : Int) (a2 : Int) (a3 : Bool) (A4 : Option Addr) (c4 : Nat) (l4 : List Int) (r : Int) (w : World) (hr4 : Kd.C (Kd.int .u8) w A4 l4.length l4) (hc4 : l4.length ≤ c4) (h : crc_divide_uint8.f k a0 a1 a2 a3 l4 = some r) :
    Calls Try.prog 96 #[.int .i64 a0, .int .u8 a1, .int .u8 a2, .bool a3, .slice A4 l4.length c4] w fun e w' => e = .returned (.int .u8 r) ∧ Drawn0 w w' := by
  have HR4 := Aside0.mk hr4
  have HC4 := Aside0.mk hc4
  clear hr4 hc4
  have H : (crc_divide_uint8.l0 k a0 a1 a3 a2 l4 (l4.length : Int) 0) = some r := h
  clear h
  have H' := Aside0.mk H
  clear H
  go_enter Try.func96, Try.ntmps96
  go_wp2
  go_loopg [11, 19] k (fun kq v11 v19 w' => ∃ (x11_1 : Int) (x19_1 : Int), v11 = .int .u8 x11_1 ∧ v19 = .int .i64 x19_1 ∧ Aside0 (crc_divide_uint8.l0 kq a0 a1 a3 x11_1 l4 (l4.length : Int) x19_1 = some r) ∧ Aside0 (kq ≤ k) ∧ Drawn0 w w')
  case atStart => exact ⟨(a2), (0), (by first | rfl | (simp; done) | (simp [*]; done)), (by first | rfl | (simp; done) | (simp [*]; done)), H', ⟨Nat.le_refl _⟩, by repeat (first | exact Drawn0.refl _ | apply Drawn0.step)⟩
  case round =>
    clear H'
    try clear p2
    try clear c4
    obtain ⟨x11_1, x19_1, rfl, rfl, HA, HK1, ⟨m1, rfl⟩⟩ := hrel
    cases gk with
    | zero => exact absurd HA.out (by simp [crc_divide_uint8.l0])
    | succ k1 =>
      have H := HA.out
      clear HA
      simp only [crc_divide_uint8.l0] at H
      by_cases c6 : x19_1 < (l4.length : Int)
      · rw [if_pos c6] at H
        have c6b0 : decide (x19_1 < (l4.length : Int)) = true := decide_eq_true c6
        clear c6
        by_cases c7 : 0 ≤ x19_1
        · rw [if_pos c7] at H
          have c7b0 : decide (0 ≤ x19_1) = true := decide_eq_true c7
          clear c7
          by_cases c8 : x19_1 < (l4.length : Int)
          · rw [if_pos c8] at H
            have c8b0 : decide (x19_1 < (l4.length : Int)) = true := decide_eq_true c8
            clear c8
            have HC9 := Aside0.mk H
            clear H
            have p101 : 0 ≤ (x19_1 : Int) := of_decide_eq_true (by first | (with_reducible assumption) | assumption)
            have q101 : x19_1 < (l4.length : Int) := of_decide_eq_true (by first | (with_reducible assumption) | assumption)
            obtain ⟨ad101, e101, hx101_0⟩ := Kd.at_int HR4.out x19_1 p101 q101
            cases e101
            replace p101 := eq_true p101
            replace q101 := eq_true q101
            go_upto_if 25 with (fail)
            go_cut [14] (fun v14 wc => ∃ (kq : Nat) (x14_8 : Int), v14 = .int .u32 x14_8 ∧ Aside0 (crc_divide_uint8.j1 kq a0 a1 a3 x11_1 x14_8 l4 (l4.length : Int) x19_1 = some r) ∧ Aside0 (kq ≤ k1) ∧ Drawn0 w wc)
            case first =>
              have H := HC9.out
              clear HC9
              by_cases c10 : a3 = true
              · subst c10
                have H1 : ((crc_Turn.f k1 ((rd l4 x19_1) % 4294967296) 8).bind fun t102 => (crc_divide_uint8.j1 k1 a0 a1 true x11_1 t102 l4 (l4.length : Int) x19_1)) = some r := by rw [if_pos rfl] at H; exact H
                clear H
                have H := H1
                clear H1
                replace H := Option.bind_eq_some_iff.mp H
                obtain ⟨t102, A110, H⟩ := H
                replace H : (crc_divide_uint8.j1 k1 a0 a1 true x11_1 t102 l4 (l4.length : Int) x19_1) = some r := H
                have A11 := Aside0.mk A110
                clear A110
                have H' := Aside0.mk H
                clear H
                go_wp2_with (first | ((with_reducible refine gate_callee (f := 99) rfl ?_); refine goesL_ (some 27) rfl rfl Try.func99 (by kernel_rfl) rfl #[.int .u32 ((rd l4 x19_1) % 4294967296), .int .i64 8] rfl (by (try simp only [List.map_toArray, List.map_cons, List.map_nil]); first | done | rfl | (simp only [List.length_drop, List.length_take]; rfl)) ?_; (with_reducible refine (crc_Turn.calls k1 ((rd l4 x19_1) % 4294967296) 8 t102 _ A11.out).mono ?_); rintro e w' ⟨rfl, ⟨nd, rfl⟩⟩; refine ⟨_, rfl, ?_⟩))
                go_meet
                case rel => exact ⟨_, (t102), (by first | rfl | (simp; done) | (simp [*]; done)), H', ⟨by have := HK1.out; first | omega | exact Nat.le_refl _⟩, by repeat (first | exact Drawn0.refl _ | apply Drawn0.step)⟩
              · replace c10 := Bool.eq_false_iff.mpr c10
                subst c10
                have H1 : (crc_divide_uint8.j1 k1 a0 a1 false x11_1 ((rd l4 x19_1) % 4294967296) l4 (l4.length : Int) x19_1) = some r := by rw [if_neg (show ¬ (false = true) by decide)] at H; exact H
                clear H
                have H := H1
                clear H1
                have H' := Aside0.mk H
                clear H
                go_wp2
                go_meet
                case rel => exact ⟨_, ((rd l4 x19_1) % 4294967296), (by first | rfl | (simp; done) | (simp [*]; done)), H', ⟨by have := HK1.out; first | omega | exact Nat.le_refl _⟩, by repeat (first | exact Drawn0.refl _ | apply Drawn0.step)⟩
            case rest =>
              clear HC9
              try clear c1
              try clear p1
              try clear q1
              try clear hx1
              try clear p2
              try clear c4
              try clear c6
              try clear c6b0
              try clear c7
              try clear c7b0
              try clear c8
              try clear c8b0
              try clear c9
              try clear c10
              try clear p10
              try clear q10
              try clear hx10
              try clear hx101_0
              try clear p101
              try clear p2
              try clear q101
              obtain ⟨kq, x14_8, rfl, HA, HJ8, ⟨mc8, rfl⟩⟩ := hcut
              cases kq with
              | zero => exact absurd HA.out (by simp [crc_divide_uint8.j1])
              | succ kj8 =>
                have H := HA.out
                clear HA
                simp only [crc_divide_uint8.j1] at H
                obtain ⟨ji12, hji12⟩ : ∃ j_ : Int, (wrap64 (a0 - 8)) = j_ := ⟨_, rfl⟩
                replace H : (if 0 ≤ (ji12) then (crc_divide_uint8.l1 kj8 a0 a1 a3 (Go.bits .xor .u8 x11_1 (shl .u8 ((x14_8) % 256) (ji12))) l4 (l4.length : Int) x19_1 0) else (none)) = some r := by first | (rw [hji12] at H; exact H) | (simp only [hji12] at H ⊢; exact H)
                have hji12w : (IntKind.i64.wrap (a0 - 8)) = ji12 := (i64_w _).trans hji12
                by_cases c13 : 0 ≤ (ji12)
                · rw [if_pos c13] at H
                  have c13b0 := eq_true c13
                  have c13b1 : decide (0 ≤ (ji12)) = true := decide_eq_true c13
                  clear c13
                  obtain ⟨ji14, hji14⟩ : ∃ j_ : Int, (shl .u8 ((x14_8) % 256) (ji12)) = j_ := ⟨_, rfl⟩
                  replace H : (crc_divide_uint8.l1 kj8 a0 a1 a3 (Go.bits .xor .u8 x11_1 (ji14)) l4 (l4.length : Int) x19_1 0) = some r := by first | (rw [hji14] at H; exact H) | (simp only [hji14] at H ⊢; exact H)
                  have hji14_ : (IntKind.u8.wrap (((x14_8) % 256) * 2 ^ min (ji12).toNat 8)) = ji14 := hji14
                  have hji14z : (ji12) ≤ 8 → (IntKind.u8.wrap (((x14_8) % 256) * 2 ^ (ji12).toNat)) = ji14 := shl_small hji14
                  have H' := Aside0.mk H
                  clear H
                  go_wp2
                  go_loopg [11, 35] kj8 (fun kq v11 v35 w' => ∃ (x11_3 : Int) (x35_3 : Int), v11 = .int .u8 x11_3 ∧ v35 = .int .i64 x35_3 ∧ Aside0 (crc_divide_uint8.l1 kq a0 a1 a3 x11_3 l4 (l4.length : Int) x19_1 x35_3 = some r) ∧ Aside0 (kq ≤ kj8) ∧ Drawn0 w w')
                  case atStart => exact ⟨(Go.bits .xor .u8 x11_1 (ji14)), (0), (by first | rfl | (simp; done) | (simp only [← hji14] <;> (first | rfl | simp)) | (simp [*]; done)), (by first | rfl | (simp; done) | (simp [*]; done)), H', ⟨Nat.le_refl _⟩, by repeat (first | exact Drawn0.refl _ | apply Drawn0.step)⟩
                  case round =>
                    clear H'
                    try clear c1
                    try clear p1
                    try clear q1
                    try clear hx1
                    try clear p2
                    try clear c4
                    try clear c6
                    try clear c6b0
                    try clear p6
                    try clear c7
                    try clear c7b0
                    try clear c8
                    try clear c8b0
                    try clear c9
                    try clear c10
                    try clear p10
                    try clear q10
                    try clear hx10
                    try clear c13
                    try clear c13b0
                    try clear c13b1
                    try clear hx101_0
                    try clear p1
                    try clear p10
                    try clear p101
                    try clear p2
                    try clear q1
                    try clear q10
                    try clear q101
                    obtain ⟨x11_3, x35_3, rfl, rfl, HA, HK3, ⟨m3, rfl⟩⟩ := hrel
                    cases gk with
                    | zero => exact absurd HA.out (by simp [crc_divide_uint8.l1])
                    | succ k3 =>
                      have H := HA.out
                      clear HA
                      simp only [crc_divide_uint8.l1] at H
                      by_cases c15 : x35_3 < 8
                      · rw [if_pos c15] at H
                        have c15b0 : decide (x35_3 < 8) = true := decide_eq_true c15
                        clear c15
                        obtain ⟨ji16, hji16⟩ : ∃ j_ : Int, (wrap64 (a0 - 1)) = j_ := ⟨_, rfl⟩
                        replace H : (if 0 ≤ (ji16) then (if (shr .u8 x11_3 (ji16)) = 1 then (crc_divide_uint8.l1 k3 a0 a1 a3 (Go.bits .xor .u8 ((x11_3 * 2) % 256) a1) l4 (l4.length : Int) x19_1 (wrap64 (x35_3 + 1))) else (crc_divide_uint8.l1 k3 a0 a1 a3 ((x11_3 * 2) % 256) l4 (l4.length : Int) x19_1 (wrap64 (x35_3 + 1)))) else (none)) = some r := by first | (rw [hji16] at H; exact H) | (simp only [hji16] at H ⊢; exact H)
                        have hji16w : (IntKind.i64.wrap (a0 - 1)) = ji16 := (i64_w _).trans hji16
                        by_cases c17 : 0 ≤ (ji16)
                        · rw [if_pos c17] at H
                          have c17b0 := eq_true c17
                          have c17b1 : decide (0 ≤ (ji16)) = true := decide_eq_true c17
                          clear c17
                          obtain ⟨ji18, hji18⟩ : ∃ j_ : Int, (shr .u8 x11_3 (ji16)) = j_ := ⟨_, rfl⟩
                          replace H : (if (ji18) = 1 then (crc_divide_uint8.l1 k3 a0 a1 a3 (Go.bits .xor .u8 ((x11_3 * 2) % 256) a1) l4 (l4.length : Int) x19_1 (wrap64 (x35_3 + 1))) else (crc_divide_uint8.l1 k3 a0 a1 a3 ((x11_3 * 2) % 256) l4 (l4.length : Int) x19_1 (wrap64 (x35_3 + 1)))) = some r := by first | (rw [hji18] at H; exact H) | (simp only [hji18] at H ⊢; exact H)
                          have hji18_ : (x11_3 / 2 ^ min (ji16).toNat 8) = ji18 := hji18
                          have hji18z : (ji16) ≤ 8 → (x11_3 / 2 ^ (ji16).toNat) = ji18 := shr_small hji18
                          by_cases c19 : (ji18) = 1
                          · rw [if_pos c19] at H
                            have c19b0 : ((ji18) == 1) = true := beq_iff_eq.mpr c19
                            have c19b1 : ((ji18) != 1) = false := bne_eq_false_iff_eq.mpr c19
                            clear c19
                            have H' := Aside0.mk H
                            clear H
                            go_wp2
                            go_roundg k3
                            case measure => have := HK1.out; have := HJ8.out; have := HK3.out; omega
                            case rel => exact ⟨(Go.bits .xor .u8 ((x11_3 * 2) % 256) a1), (wrap64 (x35_3 + 1)), (by first | rfl | (simp; done) | (simp [*]; done)), (by first | rfl | (simp; done) | (simp [*]; done)), H', ⟨by have := HK1.out; have := HJ8.out; have := HK3.out; omega⟩, by repeat (first | exact Drawn0.refl _ | apply Drawn0.step)⟩
                          · rw [if_neg c19] at H
                            have c19b0 : ((ji18) == 1) = false := beq_eq_false_iff_ne.mpr c19
                            have c19b1 : ((ji18) != 1) = true := bne_iff_ne.mpr c19
                            have H' := Aside0.mk H
                            clear H
                            go_wp2
                            go_roundg k3
                            case measure => have := HK1.out; have := HJ8.out; have := HK3.out; omega
                            case rel => exact ⟨((x11_3 * 2) % 256), (wrap64 (x35_3 + 1)), (by first | rfl | (simp; done) | (simp [*]; done)), (by first | rfl | (simp; done) | (simp [*]; done)), H', ⟨by have := HK1.out; have := HJ8.out; have := HK3.out; omega⟩, by repeat (first | exact Drawn0.refl _ | apply Drawn0.step)⟩
                        · rw [if_neg c17] at H
                          exact absurd H (by simp)
                      · rw [if_neg c15] at H
                        have c15b0 : decide (x35_3 < 8) = false := decide_eq_false c15
                        clear c15
                        have H' := Aside0.mk H
                        clear H
                        go_wp2
                        go_roundg k3
                        case measure => have := HK1.out; have := HJ8.out; have := HK3.out; omega
                        case rel => exact ⟨(x11_3), (wrap64 (x19_1 + 1)), (by first | rfl | (simp; done) | (simp [*]; done)), (by first | rfl | (simp; done) | (simp [*]; done)), H', ⟨by have := HK1.out; have := HJ8.out; have := HK3.out; omega⟩, by repeat (first | exact Drawn0.refl _ | apply Drawn0.step)⟩
                · rw [if_neg c13] at H
                  exact absurd H (by simp)
          · rw [if_neg c8] at H
            exact absurd H (by simp)
        · rw [if_neg c7] at H
          exact absurd H (by simp)
      · rw [if_neg c6] at H
        have c6b0 : decide (x19_1 < (l4.length : Int)) = false := decide_eq_false c6
        clear c6
        obtain rfl := Option.some.inj H
        go_wp2
        go_ret
        exact ⟨by first | rfl | (simp; done) | (simp [*]; done), by repeat (first | exact Drawn0.refl _ | apply Drawn0.step)⟩

/-! ### crc_divide_uint16: function 97 -/
mutual
def crc_divide_uint16.l0 : Nat → Int → Int → Bool → Int → List Int → Int → Int → Option (Int)
  | 0, _, _, _, _, _, _, _ => none
  | k + 1, x0, x1, x3, x11, x17, x18, x19 => if x19 < x18 then (if 0 ≤ x19 then (if x19 < (x17.length : Int) then (if x3 = true then ((crc_Turn.f k ((rd x17 x19) % 4294967296) 8).bind fun t104 => (crc_divide_uint16.j1 k x0 x1 x3 x11 t104 x17 x18 x19)) else (crc_divide_uint16.j1 k x0 x1 x3 x11 ((rd x17 x19) % 4294967296) x17 x18 x19)) else (none)) else (none)) else (some x11)
def crc_divide_uint16.j1 : Nat → Int → Int → Bool → Int → Int → List Int → Int → Int → Option (Int)
  | 0, _, _, _, _, _, _, _, _ => none
  | k + 1, x0, x1, x3, x11, x14, x17, x18, x19 => if 0 ≤ (wrap64 (x0 - 8)) then (crc_divide_uint16.l1 k x0 x1 x3 (Go.bits .xor .u16 x11 (shl .u16 (IntKind.u16.wrap (x14)) (wrap64 (x0 - 8)))) x17 x18 x19 0) else (none)
def crc_divide_uint16.l1 : Nat → Int → Int → Bool → Int → List Int → Int → Int → Int → Option (Int)
  | 0, _, _, _, _, _, _, _, _ => none
  | k + 1, x0, x1, x3, x11, x17, x18, x19, x35 => if x35 < 8 then (if 0 ≤ (wrap64 (x0 - 1)) then (if (shr .u16 x11 (wrap64 (x0 - 1))) = 1 then (crc_divide_uint16.l1 k x0 x1 x3 (Go.bits .xor .u16 (IntKind.u16.wrap (x11 * 2)) x1) x17 x18 x19 (wrap64 (x35 + 1))) else (crc_divide_uint16.l1 k x0 x1 x3 (IntKind.u16.wrap (x11 * 2)) x17 x18 x19 (wrap64 (x35 + 1)))) else (none)) else (crc_divide_uint16.l0 k x0 x1 x3 x11 x17 x18 (wrap64 (x19 + 1)))
end
def crc_divide_uint16.f (k : Nat) (a0 : Int) (a1 : Int) (a2 : Int) (a3 : Bool) (l4 : List Int) : Option (Int) := crc_divide_uint16.l0 k a0 a1 a3 a2 l4 (l4.length : Int) 0
theorem crc_divide_uint16.mono_l : ∀ k, (∀ y0 y1 y2 y3 y4 y5 y6, LeO (crc_divide_uint16.l0 k y0 y1 y2 y3 y4 y5 y6) (crc_divide_uint16.l0 (k + 1) y0 y1 y2 y3 y4 y5 y6)) ∧ (∀ y0 y1 y2 y3 y4 y5 y6 y7, LeO (crc_divide_uint16.j1 k y0 y1 y2 y3 y4 y5 y6 y7) (crc_divide_uint16.j1 (k + 1) y0 y1 y2 y3 y4 y5 y6 y7)) ∧ (∀ y0 y1 y2 y3 y4 y5 y6 y7, LeO (crc_divide_uint16.l1 k y0 y1 y2 y3 y4 y5 y6 y7) (crc_divide_uint16.l1 (k + 1) y0 y1 y2 y3 y4 y5 y6 y7))
  | 0 => ⟨fun _ _ _ _ _ _ _ r h => by simp [crc_divide_uint16.l0] at h, fun _ _ _ _ _ _ _ _ r h => by simp [crc_divide_uint16.j1] at h, fun _ _ _ _ _ _ _ _ r h => by simp [crc_divide_uint16.l1] at h⟩
  | k + 1 => by
    obtain ⟨ih0, ih1, ih2⟩ := crc_divide_uint16.mono_l k
    refine ⟨?_, ?_, ?_⟩
    · intro y0 y1 y2 y3 y4 y5 y6
      unfold crc_divide_uint16.l0
      repeat' first
      | (with_reducible exact ih0 _ _ _ _ _ _ _)
      | (with_reducible exact ih1 _ _ _ _ _ _ _ _)
      | (with_reducible exact ih2 _ _ _ _ _ _ _ _)
      | (with_reducible exact crc_Turn.mono _ _ _)
      | (with_reducible exact LeO.refl _)
      | (with_reducible exact LeO.none _)
      | (with_reducible refine LeO.ite ?_ ?_)
      | (with_reducible refine LeO.bind ?_ (fun _ => ?_))
      | exact ih0 _ _ _ _ _ _ _
      | exact ih1 _ _ _ _ _ _ _ _
      | exact ih2 _ _ _ _ _ _ _ _
      | exact crc_Turn.mono _ _ _
      | exact LeO.none _
      | refine LeO.ite ?_ ?_
      | refine LeO.bind ?_ (fun _ => ?_)
    · intro y0 y1 y2 y3 y4 y5 y6 y7
      unfold crc_divide_uint16.j1
      repeat' first
      | (with_reducible exact ih0 _ _ _ _ _ _ _)
      | (with_reducible exact ih1 _ _ _ _ _ _ _ _)
      | (with_reducible exact ih2 _ _ _ _ _ _ _ _)
      | (with_reducible exact crc_Turn.mono _ _ _)
      | (with_reducible exact LeO.refl _)
      | (with_reducible exact LeO.none _)
      | (with_reducible refine LeO.ite ?_ ?_)
      | (with_reducible refine LeO.bind ?_ (fun _ => ?_))
      | exact ih0 _ _ _ _ _ _ _
      | exact ih1 _ _ _ _ _ _ _ _
      | exact ih2 _ _ _ _ _ _ _ _
      | exact crc_Turn.mono _ _ _
      | exact LeO.none _
      | refine LeO.ite ?_ ?_
      | refine LeO.bind ?_ (fun _ => ?_)
    · intro y0 y1 y2 y3 y4 y5 y6 y7
      unfold crc_divide_uint16.l1
      repeat' first
      | (with_reducible exact ih0 _ _ _ _ _ _ _)
      | (with_reducible exact ih1 _ _ _ _ _ _ _ _)
      | (with_reducible exact ih2 _ _ _ _ _ _ _ _)
      | (with_reducible exact crc_Turn.mono _ _ _)
      | (with_reducible exact LeO.refl _)
      | (with_reducible exact LeO.none _)
      | (with_reducible refine LeO.ite ?_ ?_)
      | (with_reducible refine LeO.bind ?_ (fun _ => ?_))
      | exact ih0 _ _ _ _ _ _ _
      | exact ih1 _ _ _ _ _ _ _ _
      | exact ih2 _ _ _ _ _ _ _ _
      | exact crc_Turn.mono _ _ _
      | exact LeO.none _
      | refine LeO.ite ?_ ?_
      | refine LeO.bind ?_ (fun _ => ?_)
theorem crc_divide_uint16.mono : ∀ a0 a1 a2 a3 a4 k, LeO (crc_divide_uint16.f k a0 a1 a2 a3 a4) (crc_divide_uint16.f (k + 1) a0 a1 a2 a3 a4) := by
  intro a0 a1 a2 a3 a4 k
  obtain ⟨ih0, ih1, ih2⟩ := crc_divide_uint16.mono_l k
  unfold crc_divide_uint16.f
  repeat' first
      | (with_reducible exact ih0 _ _ _ _ _ _ _)
      | (with_reducible exact ih1 _ _ _ _ _ _ _ _)
      | (with_reducible exact ih2 _ _ _ _ _ _ _ _)
      | (with_reducible exact crc_Turn.mono _ _ _)
      | (with_reducible exact LeO.refl _)
      | (with_reducible exact LeO.none _)
      | (with_reducible refine LeO.ite ?_ ?_)
      | (with_reducible refine LeO.bind ?_ (fun _ => ?_))
      | exact ih0 _ _ _ _ _ _ _
      | exact ih1 _ _ _ _ _ _ _ _
      | exact ih2 _ _ _ _ _ _ _ _
      | exact crc_Turn.mono _ _ _
      | exact LeO.none _
      | refine LeO.ite ?_ ?_
      | refine LeO.bind ?_ (fun _ => ?_)
set_option maxHeartbeats 8000000 in
set_option maxRecDepth 100000 in
theorem crc_divide_uint16.calls (k : Nat) (a0 : Int) (a1 : Int) (a2 : Int) (a3 : Bool) (A4 : Option Addr) (c4 : Nat) (l4 : List Int) (r : Int) (w : World) (hr4 : Kd.C (Kd.int .u8) w A4 l4.length l4) (hc4 : l4.length ≤ c4) (h : crc_divide_uint16.f k a0 a1 a2 a3 l4 = some r) :
    Calls Try.prog 97 #[.int .i64 a0, .int .u16 a1, .int .u16 a2, .bool a3, .slice A4 l4.length c4] w fun e w' => e = .returned (.int .u16 r) ∧ Drawn0 w w' := by
  have HR4 := Aside0.mk hr4
  have HC4 := Aside0.mk hc4
  clear hr4 hc4
  have H : (crc_divide_uint16.l0 k a0 a1 a3 a2 l4 (l4.length : Int) 0) = some r := h
  clear h
  have H' := Aside0.mk H
  clear H
  go_enter Try.func97, Try.ntmps97
  go_wp2
  go_loopg [11, 19] k (fun kq v11 v19 w' => ∃ (x11_1 : Int) (x19_1 : Int), v11 = .int .u16 x11_1 ∧ v19 = .int .i64 x19_1 ∧ Aside0 (crc_divide_uint16.l0 kq a0 a1 a3 x11_1 l4 (l4.length : Int) x19_1 = some r) ∧ Aside0 (kq ≤ k) ∧ Drawn0 w w')
  case atStart => exact ⟨(a2), (0), (by first | rfl | (simp; done) | (simp [*]; done)), (by first | rfl | (simp; done) | (simp [*]; done)), H', ⟨Nat.le_refl _⟩, by repeat (first | exact Drawn0.refl _ | apply Drawn0.step)⟩
  case round =>
    clear H'
    try clear p2
    try clear c4
    obtain ⟨x11_1, x19_1, rfl, rfl, HA, HK1, ⟨m1, rfl⟩⟩ := hrel
    cases gk with
    | zero => exact absurd HA.out (by simp [crc_divide_uint16.l0])
    | succ k1 =>
      have H := HA.out
      clear HA
      simp only [crc_divide_uint16.l0] at H
      by_cases c6 : x19_1 < (l4.length : Int)
      · rw [if_pos c6] at H
        have c6b0 : decide (x19_1 < (l4.length : Int)) = true := decide_eq_true c6
        clear c6
        by_cases c7 : 0 ≤ x19_1
        · rw [if_pos c7] at H
          have c7b0 : decide (0 ≤ x19_1) = true := decide_eq_true c7
          clear c7
          by_cases c8 : x19_1 < (l4.length : Int)
          · rw [if_pos c8] at H
            have c8b0 : decide (x19_1 < (l4.length : Int)) = true := decide_eq_true c8
            clear c8
            have HC9 := Aside0.mk H
            clear H
            have p103 : 0 ≤ (x19_1 : Int) := of_decide_eq_true (by first | (with_reducible assumption) | assumption)
            have q103 : x19_1 < (l4.length : Int) := of_decide_eq_true (by first | (with_reducible assumption) | assumption)
            obtain ⟨ad103, e103, hx103_0⟩ := Kd.at_int HR4.out x19_1 p103 q103
            cases e103
            replace p103 := eq_true p103
            replace q103 := eq_true q103
            go_upto_if 25 with (fail)
            go_cut [14] (fun v14 wc => ∃ (kq : Nat) (x14_8 : Int), v14 = .int .u32 x14_8 ∧ Aside0 (crc_divide_uint16.j1 kq a0 a1 a3 x11_1 x14_8 l4 (l4.length : Int) x19_1 = some r) ∧ Aside0 (kq ≤ k1) ∧ Drawn0 w wc)
            case first =>
              have H := HC9.out
              clear HC9
              by_cases c10 : a3 = true
              · subst c10
                have H1 : ((crc_Turn.f k1 ((rd l4 x19_1) % 4294967296) 8).bind fun t104 => (crc_divide_uint16.j1 k1 a0 a1 true x11_1 t104 l4 (l4.length : Int) x19_1)) = some r := by rw [if_pos rfl] at H; exact H
                clear H
                have H := H1
                clear H1
                replace H := Option.bind_eq_some_iff.mp H
                obtain ⟨t104, A110, H⟩ := H
                replace H : (crc_divide_uint16.j1 k1 a0 a1 true x11_1 t104 l4 (l4.length : Int) x19_1) = some r := H
                have A11 := Aside0.mk A110
                clear A110
                have H' := Aside0.mk H
                clear H
                go_wp2_with (first | ((with_reducible refine gate_callee (f := 99) rfl ?_); refine goesL_ (some 27) rfl rfl Try.func99 (by kernel_rfl) rfl #[.int .u32 ((rd l4 x19_1) % 4294967296), .int .i64 8] rfl (by (try simp only [List.map_toArray, List.map_cons, List.map_nil]); first | done | rfl | (simp only [List.length_drop, List.length_take]; rfl)) ?_; (with_reducible refine (crc_Turn.calls k1 ((rd l4 x19_1) % 4294967296) 8 t104 _ A11.out).mono ?_); rintro e w' ⟨rfl, ⟨nd, rfl⟩⟩; refine ⟨_, rfl, ?_⟩))
                go_meet
                case rel => exact ⟨_, (t104), (by first | rfl | (simp; done) | (simp [*]; done)), H', ⟨by have := HK1.out; first | omega | exact Nat.le_refl _⟩, by repeat (first | exact Drawn0.refl _ | apply Drawn0.step)⟩
              · replace c10 := Bool.eq_false_iff.mpr c10
                subst c10
                have H1 : (crc_divide_uint16.j1 k1 a0 a1 false x11_1 ((rd l4 x19_1) % 4294967296) l4 (l4.length : Int) x19_1) = some r := by rw [if_neg (show ¬ (false = true) by decide)] at H; exact H
                clear H
                have H := H1
                clear H1
                have H' := Aside0.mk H
                clear H
                go_wp2
                go_meet
                case rel => exact ⟨_, ((rd l4 x19_1) % 4294967296), (by first | rfl | (simp; done) | (simp [*]; done)), H', ⟨by have := HK1.out; first | omega | exact Nat.le_refl _⟩, by repeat (first | exact Drawn0.refl _ | apply Drawn0.step)⟩
            case rest =>
              clear HC9
              try clear c1
              try clear p1
              try clear q1
              try clear hx1
              try clear p2
              try clear c4
              try clear c6
              try clear c6b0
              try clear c7
              try clear c7b0
              try clear c8
              try clear c8b0
              try clear c9
              try clear c10
              try clear p10
              try clear q10
              try clear hx10
              try clear hx103_0
              try clear p103
              try clear p2
              try clear q103
              obtain ⟨kq, x14_8, rfl, HA, HJ8, ⟨mc8, rfl⟩⟩ := hcut
              cases kq with
              | zero => exact absurd HA.out (by simp [crc_divide_uint16.j1])
              | succ kj8 =>
                have H := HA.out
                clear HA
                simp only [crc_divide_uint16.j1] at H
                obtain ⟨ji12, hji12⟩ : ∃ j_ : Int, (wrap64 (a0 - 8)) = j_ := ⟨_, rfl⟩
                replace H : (if 0 ≤ (ji12) then (crc_divide_uint16.l1 kj8 a0 a1 a3 (Go.bits .xor .u16 x11_1 (shl .u16 (IntKind.u16.wrap (x14_8)) (ji12))) l4 (l4.length : Int) x19_1 0) else (none)) = some r := by first | (rw [hji12] at H; exact H) | (simp only [hji12] at H ⊢; exact H)
                have hji12w : (IntKind.i64.wrap (a0 - 8)) = ji12 := (i64_w _).trans hji12
                by_cases c13 : 0 ≤ (ji12)
                · rw [if_pos c13] at H
                  have c13b0 := eq_true c13
                  have c13b1 : decide (0 ≤ (ji12)) = true := decide_eq_true c13
                  clear c13
                  obtain ⟨ji14, hji14⟩ : ∃ j_ : Int, (shl .u16 (IntKind.u16.wrap (x14_8)) (ji12)) = j_ := ⟨_, rfl⟩
                  replace H : (crc_divide_uint16.l1 kj8 a0 a1 a3 (Go.bits .xor .u16 x11_1 (ji14)) l4 (l4.length : Int) x19_1 0) = some r := by first | (rw [hji14] at H; exact H) | (simp only [hji14] at H ⊢; exact H)
                  have hji14_ : (IntKind.u16.wrap ((IntKind.u16.wrap (x14_8)) * 2 ^ min (ji12).toNat 16)) = ji14 := hji14
                  have hji14z : (ji12) ≤ 16 → (IntKind.u16.wrap ((IntKind.u16.wrap (x14_8)) * 2 ^ (ji12).toNat)) = ji14 := shl_small hji14
                  have H' := Aside0.mk H
                  clear H
                  go_wp2
                  go_loopg [11, 35] kj8 (fun kq v11 v35 w' => ∃ (x11_3 : Int) (x35_3 : Int), v11 = .int .u16 x11_3 ∧ v35 = .int .i64 x35_3 ∧ Aside0 (crc_divide_uint16.l1 kq a0 a1 a3 x11_3 l4 (l4.length : Int) x19_1 x35_3 = some r) ∧ Aside0 (kq ≤ kj8) ∧ Drawn0 w w')
                  case atStart => exact ⟨(Go.bits .xor .u16 x11_1 (ji14)), (0), (by first | rfl | (simp; done) | (simp only [← hji14] <;> (first | rfl | simp)) | (simp [*]; done)), (by first | rfl | (simp; done) | (simp [*]; done)), H', ⟨Nat.le_refl _⟩, by repeat (first | exact Drawn0.refl _ | apply Drawn0.step)⟩
                  case round =>
                    clear H'
                    try clear c1
                    try clear p1
                    try clear q1
                    try clear hx1
                    try clear p2
                    try clear c4
                    try clear c6
                    try clear c6b0
                    try clear p6
                    try clear c7
                    try clear c7b0
                    try clear c8
                    try clear c8b0
                    try clear c9
                    try clear c10
                    try clear p10
                    try clear q10
                    try clear hx10
                    try clear c13
                    try clear c13b0
                    try clear c13b1
                    try clear hx103_0
                    try clear p1
                    try clear p10
                    try clear p103
                    try clear p2
                    try clear q1
                    try clear q10
                    try clear q103
                    obtain ⟨x11_3, x35_3, rfl, rfl, HA, HK3, ⟨m3, rfl⟩⟩ := hrel
                    cases gk with
                    | zero => exact absurd HA.out (by simp [crc_divide_uint16.l1])
                    | succ k3 =>
                      have H := HA.out
                      clear HA
                      simp only [crc_divide_uint16.l1] at H
                      by_cases c15 : x35_3 < 8
                      · rw [if_pos c15] at H
                        have c15b0 : decide (x35_3 < 8) = true := decide_eq_true c15
                        clear c15
                        obtain ⟨ji16, hji16⟩ : ∃ j_ : Int, (wrap64 (a0 - 1)) = j_ := ⟨_, rfl⟩
                        replace H : (if 0 ≤ (ji16) then (if (shr .u16 x11_3 (ji16)) = 1 then (crc_divide_uint16.l1 k3 a0 a1 a3 (Go.bits .xor .u16 (IntKind.u16.wrap (x11_3 * 2)) a1) l4 (l4.length : Int) x19_1 (wrap64 (x35_3 + 1))) else (crc_divide_uint16.l1 k3 a0 a1 a3 (IntKind.u16.wrap (x11_3 * 2)) l4 (l4.length : Int) x19_1 (wrap64 (x35_3 + 1)))) else (none)) = some r := by first | (rw [hji16] at H; exact H) | (simp only [hji16] at H ⊢; exact H)
                        have hji16w : (IntKind.i64.wrap (a0 - 1)) = ji16 := (i64_w _).trans hji16
                        by_cases c17 : 0 ≤ (ji16)
                        · rw [if_pos c17] at H
                          have c17b0 := eq_true c17
                          have c17b1 : decide (0 ≤ (ji16)) = true := decide_eq_true c17
                          clear c17
                          obtain ⟨ji18, hji18⟩ : ∃ j_ : Int, (shr .u16 x11_3 (ji16)) = j_ := ⟨_, rfl⟩
                          replace H : (if (ji18) = 1 then (crc_divide_uint16.l1 k3 a0 a1 a3 (Go.bits .xor .u16 (IntKind.u16.wrap (x11_3 * 2)) a1) l4 (l4.length : Int) x19_1 (wrap64 (x35_3 + 1))) else (crc_divide_uint16.l1 k3 a0 a1 a3 (IntKind.u16.wrap (x11_3 * 2)) l4 (l4.length : Int) x19_1 (wrap64 (x35_3 + 1)))) = some r := by first | (rw [hji18] at H; exact H) | (simp only [hji18] at H ⊢; exact H)
                          have hji18_ : (x11_3 / 2 ^ min (ji16).toNat 16) = ji18 := hji18
                          have hji18z : (ji16) ≤ 16 → (x11_3 / 2 ^ (ji16).toNat) = ji18 := shr_small hji18
                          by_cases c19 : (ji18) = 1
                          · rw [if_pos c19] at H
                            have c19b0 : ((ji18) == 1) = true := beq_iff_eq.mpr c19
                            have c19b1 : ((ji18) != 1) = false := bne_eq_false_iff_eq.mpr c19
                            clear c19
                            have H' := Aside0.mk H
                            clear H
                            go_wp2
                            go_roundg k3
                            case measure => have := HK1.out; have := HJ8.out; have := HK3.out; omega
                            case rel => exact ⟨(Go.bits .xor .u16 (IntKind.u16.wrap (x11_3 * 2)) a1), (wrap64 (x35_3 + 1)), (by first | rfl | (simp; done) | (simp [*]; done)), (by first | rfl | (simp; done) | (simp [*]; done)), H', ⟨by have := HK1.out; have := HJ8.out; have := HK3.out; omega⟩, by repeat (first | exact Drawn0.refl _ | apply Drawn0.step)⟩
                          · rw [if_neg c19] at H
                            have c19b0 : ((ji18) == 1) = false := beq_eq_false_iff_ne.mpr c19
                            have c19b1 : ((ji18) != 1) = true := bne_iff_ne.mpr c19
                            have H' := Aside0.mk H
                            clear H
                            go_wp2
                            go_roundg k3
                            case measure => have := HK1.out; have := HJ8.out; have := HK3.out; omega
                            case rel => exact ⟨(IntKind.u16.wrap (x11_3 * 2)), (wrap64 (x35_3 + 1)), (by first | rfl | (simp; done) | (simp [*]; done)), (by first | rfl | (simp; done) | (simp [*]; done)), H', ⟨by have := HK1.out; have := HJ8.out; have := HK3.out; omega⟩, by repeat (first | exact Drawn0.refl _ | apply Drawn0.step)⟩
                        · rw [if_neg c17] at H
                          exact absurd H (by simp)
                      · rw [if_neg c15] at H
                        have c15b0 : decide (x35_3 < 8) = false := decide_eq_false c15
                        clear c15
                        have H' := Aside0.mk H
                        clear H
                        go_wp2
                        go_roundg k3
                        case measure => have := HK1.out; have := HJ8.out; have := HK3.out; omega
                        case rel => exact ⟨(x11_3), (wrap64 (x19_1 + 1)), (by first | rfl | (simp; done) | (simp [*]; done)), (by first | rfl | (simp; done) | (simp [*]; done)), H', ⟨by have := HK1.out; have := HJ8.out; have := HK3.out; omega⟩, by repeat (first | exact Drawn0.refl _ | apply Drawn0.step)⟩
                · rw [if_neg c13] at H
                  exact absurd H (by simp)
          · rw [if_neg c8] at H
            exact absurd H (by simp)
        · rw [if_neg c7] at H
          exact absurd H (by simp)
      · rw [if_neg c6] at H
        have c6b0 : decide (x19_1 < (l4.length : Int)) = false := decide_eq_false c6
        clear c6
        obtain rfl := Option.some.inj H
        go_wp2
        go_ret
        exact ⟨by first | rfl | (simp; done) | (simp [*]; done), by repeat (first | exact Drawn0.refl _ | apply Drawn0.step)⟩

end Go.Proofs.Ytmnohhmnkmnikaa.PSum

import Derived.Test.YtcmofedfbjpjlaaCrcRefTurn
import Derived.Outline
import Derived.IntWalk
import Derived.Deep.RegionHeld3
/- The law CrcTurns, walked. -/
set_option linter.unusedVariables false
set_option linter.unusedSimpArgs false
namespace Go.Proofs.Ytcmofedfbjpjlaa.CrcTurnsWalk
open Go.RowKit Go.Proofs.YtcmofedfbjpjlaaW.PrintWords Go.Proofs.Ytcmofedfbjpjlaa.Nats Go.Proofs.Ytcmofedfbjpjlaa.CrcPlain Go.Proofs.Ytcmofedfbjpjlaa.CrcCalls

theorem bthen {w w1 w2 : World} (h : Below w.heap.size w w1) (k : Below w1.heap.size w1 w2) : Below w.heap.size w w2 := h.trans (k.mono h.size)

set_option maxRecDepth 100000 in
set_option maxHeartbeats 1000000 in
theorem out (v n : Int) (h : n < 1 ∨ 32 < n) (w : World) :
    Calls Try.prog 9 #[.int .u32 v, .int .i64 n] w fun e w' => e = .returned (.bool true) ∧ Below w.heap.size w w' := by
  by_cases h1 : n < 1
  · go_enter Try.func9, Try.ntmps9
    go_wp2_with fail
    refine (awake04 _).mono ?_
    rintro e w1 ⟨rfl, hb⟩
    go_wp2_with fail
    refine (turn_calls_zero v n h _).mono ?_
    rintro e w2 ⟨rfl, hd⟩
    go_wp2
    go_ret
    exact ⟨rfl, hb.trans (hd.below.mono hb.size)⟩
  · have h2 : 32 < n := by omega
    go_enter Try.func9, Try.ntmps9
    go_wp2_with fail
    refine (awake04 _).mono ?_
    rintro e w1 ⟨rfl, hb⟩
    go_wp2_with fail
    refine (turn_calls_zero v n h _).mono ?_
    rintro e w2 ⟨rfl, hd⟩
    go_wp2
    go_ret
    exact ⟨rfl, hb.trans (hd.below.mono hb.size)⟩

set_option maxRecDepth 100000 in
set_option maxHeartbeats 1000000 in
theorem within (v n : Nat) (hv : v < 4294967296) (h1 : 1 ≤ n) (h2 : n ≤ 32) (w : World) :
    Calls Try.prog 9 #[.int .u32 (v : Int), .int .i64 (n : Int)] w fun e w' => e = .returned (.bool true) ∧ Below w.heap.size w w' := by
  have t1 : decide ((n : Int) < 1) = false := by simp; omega
  have t2 : decide ((n : Int) > 32) = false := by simp; omega
  have ht := turn_lt n v
  have ht4 : turn n v < 4294967296 := Nat.lt_of_lt_of_le ht (Nat.pow_le_pow_right (by omega) h2)
  clear ht
  obtain ⟨m, hmn⟩ : ∃ m : Nat, m + n = 32 := ⟨32 - n, by omega⟩
  have hm0 : (0 : Int) ≤ (m : Int) := by omega
  have hm1 : (m : Int) ≤ 32 := by omega
  have hm : IntKind.i64.wrap (32 - (n : Int)) = (m : Int) := IntWalk.i64_in _ (by omega) |>.trans (by omega)
  obtain ⟨x, hx, hy⟩ : ∃ x : Int, IntKind.u32.wrap ((v : Int) * 2 ^ m) = x ∧ x / 2 ^ m = ((turn n (turn n v) : Nat) : Int) := by
    have e : (2 : Nat) ^ 32 = 2 ^ n * 2 ^ m := by rw [← Nat.pow_add]; congr 1; omega
    have e2 : v * 2 ^ m % 2 ^ 32 = v % 2 ^ n * 2 ^ m := by rw [e, Nat.mul_mod_mul_right]
    have e3 : IntKind.u32.wrap ((v : Int) * 2 ^ m) = ((v * 2 ^ m % 2 ^ 32 : Nat) : Int) := by
      simp [IntKind.wrap, IntKind.signed, IntKind.bits]
    refine ⟨_, e3, ?_⟩
    rw [turn_turn, e2]
    have e4 : (v % 2 ^ n) * 2 ^ m / 2 ^ m = v % 2 ^ n := Nat.mul_div_cancel _ (Nat.two_pow_pos m)
    have e5 : ((((v % 2 ^ n) * 2 ^ m : Nat) : Int)) / 2 ^ m = (((v % 2 ^ n) * 2 ^ m / 2 ^ m : Nat) : Int) := by simp
    rw [e5, e4]
  clear hmn
  go_enter Try.func9, Try.ntmps9
  go_wp2_with fail
  refine (awake04 _).mono ?_
  rintro e w1 ⟨rfl, hb1⟩
  go_wp2_with fail
  refine (turn_calls v n hv h1 h2 _).mono ?_
  rintro e w2 ⟨rfl, hd2⟩
  go_wp2_with fail
  have hbx := hb1.trans (hd2.below.mono hb1.size)
  clear hb1 hd2
  go_region_held3 (fun w' => Below w.heap.size w w') (first | exact hby | exact hbz | exact hbx.drew)
    (first | (go_at_call 45; refine (CrcRefTurn.turn_calls v n hv h1 h2 _).mono ?_; rintro e w3 ⟨rfl, hb3⟩; have hby := bthen (w := w) (by assumption) hb3) | (go_at_call 44; refine (turn_calls (turn n v) n ht4 h1 h2 _).mono ?_; rintro e w4 ⟨rfl, hd4⟩; have hbz := bthen (w := w) (by assumption) hd4.below))
  all_goals (go_wp2; go_ret; exact ⟨by simp, hbz⟩)

theorem walk (a0 a1 : Int) (W : World) (w0 : (Lit.int .u32 a0).wf = true) : Calls Try.prog 9 #[.int .u32 a0, .int .i64 a1] W fun e w' => e = .returned (.bool true) ∧ Below W.heap.size W w' := by
  by_cases h : a1 < 1 ∨ 32 < a1
  · exact out a0 a1 h W
  · simp [Lit.wf, IntKind.min, IntKind.max, IntKind.signed, IntKind.bits] at w0
    obtain ⟨v, rfl⟩ := Int.eq_ofNat_of_zero_le w0.1
    obtain ⟨n, rfl⟩ := Int.eq_ofNat_of_zero_le (show 0 ≤ a1 by omega)
    exact within v n (by omega) (by omega) (by omega) W
end Go.Proofs.Ytcmofedfbjpjlaa.CrcTurnsWalk

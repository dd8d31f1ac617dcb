import Derived.Test.YtcldlfhnmkogeaaNomenUnlikeWalk
import Derived.Test.YtcldlfhnmkogeaaNomenInside
/- The law NomenBetween, walked. -/
set_option linter.unusedVariables false
set_option linter.unusedSimpArgs false
namespace Go.Proofs.Ytcldlfhnmkogeaa.NomenBetweenWalk
open Go.RowKit Go.Proofs.YtcldlfhnmkogeaaW.PrintWords Go.Proofs.YtcldlfhnmkogeaaW.PrintLast Go.Proofs.Ytcldlfhnmkogeaa.Nats Go.Proofs.Ytcldlfhnmkogeaa.HeapKit Go.Proofs.Ytcldlfhnmkogeaa.RatPlain Go.Proofs.Ytcldlfhnmkogeaa.Term

theorem terms_whole : ∀ x ∈ terms, x.ld = 1 ∧ x.md = 1 ∧ I64 x.ln ∧ I64 x.mn := by decide +kernel
theorem inside_one {u : TRow} (hl : u.ld = 1) (hm : u.md = 1) (n : Int) : insideR u n 1 = decide (u.ln ≤ n ∧ n ≤ u.mn) := by
  have g : ∀ n : Int, Rt n 1 := fun n => ⟨by decide, Int.gcd_one⟩
  unfold insideR
  rw [hl, hm, Bool.eq_iff_iff]
  simp [g, -not_and]
theorem wrap_small {n : Int} (h : -2000000 ≤ n ∧ n < 2000000) : wrap64 n = n := by unfold wrap64; omega
/-- What is known ahead. -/
structure Known (s : ByteArray) (ok : Bool) (u : TRow) : Prop where
  fa : ∀ w, Calls Try.prog 34 #[.string s] w fun e w' => e = .returned (.tuple #[.agg #[.string u.label, .int .i64 u.code, .string u.unit, .int .i64 u.ln, .int .i64 u.ld, .int .i64 u.mn, .int .i64 u.md], .bool ok]) ∧ Below w.heap.size w w'
  ia : ok = true → ∀ n, I64 n → ∀ w, Calls Try.prog 48 #[.agg #[.string u.label, .int .i64 u.code, .string u.unit, .int .i64 u.ln, .int .i64 u.ld, .int .i64 u.mn, .int .i64 u.md], .agg #[.int .i64 n, .int .i64 1]] w fun e w' => e = .returned (.bool (decide (u.ln ≤ n ∧ n ≤ u.mn))) ∧ Below w.heap.size w w'
theorem known (s : ByteArray) : ∃ ok u, Known s ok u := by
  have fa := fun w => find_calls s w
  cases hu : tfind s with
  | none =>
    simp only [hu, TRow.val] at fa
    exact ⟨_, zrow, ⟨fa, fun e => by cases e⟩⟩
  | some u =>
    simp only [hu, TRow.val] at fa
    obtain ⟨h1, h2, h3, h4⟩ := terms_whole u (NomenUnlikeWalk.tfind_mem hu)
    refine ⟨_, u, ⟨fa, fun _ n hn w => ?_⟩⟩
    have h := inside_calls u hn (d := 1) (by decide) h3 (by rw [h1]; decide) h4 (by rw [h2]; decide) w
    rw [inside_one h1 h2 n] at h
    exact h

set_option maxRecDepth 100000 in
set_option maxHeartbeats 4000000 in
theorem walk (s : ByteArray) (a b up : Int) (ha : I64 a) (hb : I64 b) (h0 : 0 ≤ up) (h1 : up < 256) (w : World) :
    Calls Try.prog 18 #[.string s, .int .i64 a, .int .i64 b, .int .u8 up] w fun e w' => e = .returned (.bool true) ∧ Below w.heap.size w w' := by
  obtain ⟨ok, u, hk⟩ := known s
  have HK := Lib.hid hk
  clear hk
  go_enter Try.func18, Try.ntmps18
  go_wp2_with fail
  refine (awake20 _).mono ?_
  rintro e w1 ⟨rfl, hB⟩
  by_cases q0 : ((s.size : Nat) : Int) > 60
  · have t0 : decide (((s.size : Nat) : Int) > 60) = true := decide_eq_true q0
    go_wp2_with fail
    refine (awake20 _).mono ?_
    rintro e w9 ⟨rfl, hb9⟩
    go_wp2_with fail
    go_ret
    exact ⟨rfl, bthen hB hb9⟩
  have t0 : decide (((s.size : Nat) : Int) > 60) = false := decide_eq_false q0
  clear q0
  go_wp2_with fail
  clear t0
  refine (HK.out.fa _).mono ?_
  rintro e w2 ⟨rfl, hb2⟩
  replace hB := bthen (bthen hB hb2) (below_alloc (Below.refl _ _) (.cells #[.string u.label, .int .i64 u.code, .string u.unit, .int .i64 u.ln, .int .i64 u.ld, .int .i64 u.mn, .int .i64 u.md] 57))
  have k9 := blk_new w2 (.cells #[.string u.label, .int .i64 u.code, .string u.unit, .int .i64 u.ln, .int .i64 u.ld, .int .i64 u.mn, .int .i64 u.md] 57)
  clear hb2
  have ht := HK.out.ia
  cases ok with
  | false =>
    go_wp2_with fail
    go_ret
    exact ⟨by simp, hB⟩
  | true =>
    have HI := Lib.hid (ht rfl)
    clear ht
    have c0 : (w2.alloc (.cells #[.string u.label, .int .i64 u.code, .string u.unit, .int .i64 u.ln, .int .i64 u.ld, .int .i64 u.mn, .int .i64 u.md] 57)).cell? ⟨w2.heap.size, 0, none⟩ = some (.string u.label) := blk_cell k9 0
    have c1 : (w2.alloc (.cells #[.string u.label, .int .i64 u.code, .string u.unit, .int .i64 u.ln, .int .i64 u.ld, .int .i64 u.mn, .int .i64 u.md] 57)).cell? ⟨w2.heap.size, 1, none⟩ = some (.int .i64 u.code) := blk_cell k9 1
    have c2 : (w2.alloc (.cells #[.string u.label, .int .i64 u.code, .string u.unit, .int .i64 u.ln, .int .i64 u.ld, .int .i64 u.mn, .int .i64 u.md] 57)).cell? ⟨w2.heap.size, 2, none⟩ = some (.string u.unit) := blk_cell k9 2
    have c3 : (w2.alloc (.cells #[.string u.label, .int .i64 u.code, .string u.unit, .int .i64 u.ln, .int .i64 u.ld, .int .i64 u.mn, .int .i64 u.md] 57)).cell? ⟨w2.heap.size, 3, none⟩ = some (.int .i64 u.ln) := blk_cell k9 3
    have c4 : (w2.alloc (.cells #[.string u.label, .int .i64 u.code, .string u.unit, .int .i64 u.ln, .int .i64 u.ld, .int .i64 u.mn, .int .i64 u.md] 57)).cell? ⟨w2.heap.size, 4, none⟩ = some (.int .i64 u.ld) := blk_cell k9 4
    have c5 : (w2.alloc (.cells #[.string u.label, .int .i64 u.code, .string u.unit, .int .i64 u.ln, .int .i64 u.ld, .int .i64 u.mn, .int .i64 u.md] 57)).cell? ⟨w2.heap.size, 5, none⟩ = some (.int .i64 u.mn) := blk_cell k9 5
    have c6 : (w2.alloc (.cells #[.string u.label, .int .i64 u.code, .string u.unit, .int .i64 u.ln, .int .i64 u.ld, .int .i64 u.mn, .int .i64 u.md] 57)).cell? ⟨w2.heap.size, 6, none⟩ = some (.int .i64 u.md) := blk_cell k9 6
    go_wp2_with fail
    refine (HI.out a ha _).mono ?_
    rintro e w3 ⟨rfl, hb3⟩
    replace hB := bthen hB hb3
    replace k9 := blk_below k9 hb3
    clear hb3 c0 c1 c2 c3 c4 c5 c6
    have d0 : w3.cell? ⟨w2.heap.size, 0, none⟩ = some (.string u.label) := blk_cell k9 0
    have d1 : w3.cell? ⟨w2.heap.size, 1, none⟩ = some (.int .i64 u.code) := blk_cell k9 1
    have d2 : w3.cell? ⟨w2.heap.size, 2, none⟩ = some (.string u.unit) := blk_cell k9 2
    have d3 : w3.cell? ⟨w2.heap.size, 3, none⟩ = some (.int .i64 u.ln) := blk_cell k9 3
    have d4 : w3.cell? ⟨w2.heap.size, 4, none⟩ = some (.int .i64 u.ld) := blk_cell k9 4
    have d5 : w3.cell? ⟨w2.heap.size, 5, none⟩ = some (.int .i64 u.mn) := blk_cell k9 5
    have d6 : w3.cell? ⟨w2.heap.size, 6, none⟩ = some (.int .i64 u.md) := blk_cell k9 6
    by_cases qa : ¬ (u.ln ≤ a ∧ a ≤ u.mn)
    · have ta : decide (u.ln ≤ a ∧ a ≤ u.mn) = false := decide_eq_false qa
      rw [ta]
      go_wp2_with fail
      go_ret
      exact ⟨by simp, hB⟩
    replace qa := Decidable.not_not.1 qa
    have ta : decide (u.ln ≤ a ∧ a ≤ u.mn) = true := decide_eq_true qa
    rw [ta]
    clear ta
    go_wp2_with fail
    refine (HI.out b hb _).mono ?_
    rintro e w4 ⟨rfl, hb4⟩
    replace hB := bthen hB hb4
    replace k9 := blk_below k9 hb4
    clear hb4 d0 d1 d2 d3 d4 d5 d6
    by_cases qb : ¬ (u.ln ≤ b ∧ b ≤ u.mn)
    · have tb : decide (u.ln ≤ b ∧ b ≤ u.mn) = false := decide_eq_false qb
      rw [tb]
      go_wp2_with fail
      go_ret
      exact ⟨by simp, hB⟩
    replace qb := Decidable.not_not.1 qb
    have tb : decide (u.ln ≤ b ∧ b ≤ u.mn) = true := decide_eq_true qb
    rw [tb]
    clear tb
    by_cases q1 : a > b
    · have t1 : decide (a > b) = true := decide_eq_true q1
      go_wp2_with fail
      go_ret
      exact ⟨by simp, hB⟩
    have t1 : decide (a > b) = false := decide_eq_false q1
    by_cases q2 : a < -1000000
    · have t2 : decide (a < -1000000) = true := decide_eq_true q2
      go_wp2_with fail
      go_ret
      exact ⟨by simp, hB⟩
    have t2 : decide (a < -1000000) = false := decide_eq_false q2
    by_cases q3 : b > 1000000
    · have t3 : decide (b > 1000000) = true := decide_eq_true q3
      go_wp2_with fail
      go_ret
      exact ⟨by simp, hB⟩
    have t3 : decide (b > 1000000) = false := decide_eq_false q3
    have u0 := wrap_small (n := up) (by omega)
    have u1 := wrap_small (n := a + up) (by omega)
    have hc : I64 (a + up) := by constructor <;> omega
    by_cases q4 : a + up > b
    · have t4 : decide (a + up > b) = true := decide_eq_true q4
      go_wp2_with fail
      go_ret
      exact ⟨by simp, hB⟩
    have t4 : decide (a + up > b) = false := decide_eq_false q4
    have tc : decide (u.ln ≤ a + up ∧ a + up ≤ u.mn) = true := decide_eq_true (by omega)
    have e0 : w4.cell? ⟨w2.heap.size, 0, none⟩ = some (.string u.label) := blk_cell k9 0
    have e1 : w4.cell? ⟨w2.heap.size, 1, none⟩ = some (.int .i64 u.code) := blk_cell k9 1
    have e2 : w4.cell? ⟨w2.heap.size, 2, none⟩ = some (.string u.unit) := blk_cell k9 2
    have e3 : w4.cell? ⟨w2.heap.size, 3, none⟩ = some (.int .i64 u.ln) := blk_cell k9 3
    have e4 : w4.cell? ⟨w2.heap.size, 4, none⟩ = some (.int .i64 u.ld) := blk_cell k9 4
    have e5 : w4.cell? ⟨w2.heap.size, 5, none⟩ = some (.int .i64 u.mn) := blk_cell k9 5
    have e6 : w4.cell? ⟨w2.heap.size, 6, none⟩ = some (.int .i64 u.md) := blk_cell k9 6
    go_wp2_with fail
    refine (HI.out (a + up) hc _).mono ?_
    rw [tc]
    rintro e w5 ⟨rfl, hb5⟩
    replace hB := bthen hB hb5
    go_wp2_with fail
    go_ret
    exact ⟨by simp, hB⟩
end Go.Proofs.Ytcldlfhnmkogeaa.NomenBetweenWalk

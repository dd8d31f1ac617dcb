import Derived.Test.YtcldlfhnmkogeaaRatPlain
import Derived.Test.YtcldlfhnmkogeaaPRawx1
import Derived.Test.YtcldlfhnmkogeaaRatMore
/- The document's whole numbers (lancetref01) and whether a fraction is right (lancetref02), in plain Lean. -/
set_option linter.unusedVariables false
set_option linter.unusedSimpArgs false
namespace Go.Proofs.Ytcldlfhnmkogeaa.RatPlain
open Go.RowKit Go.Proofs.YtcldlfhnmkogeaaW.PrintWords

theorem ref_size {a : Int} (h : I64 a) : PRaw.lancetref01_Size.f a = some (a.natAbs : Int) := by
  unfold I64 at h
  unfold PRaw.lancetref01_Size.f
  by_cases h0 : a < 0
  · rw [if_pos h0, wrap_in (x := a + 1) (by unfold I64; omega), wrap_in (x := -(a + 1)) (by unfold I64; omega), u64_wrap, u64_wrap]
    congr 1
    omega
  · rw [if_neg h0, u64_wrap]
    congr 1
    omega
theorem ref_loop : ∀ (k y x : Nat), y < k → PRaw.lancetref01_Gcd.l0 k (x : Int) (y : Int) = some ((Nat.gcd x y : Nat) : Int) := by
  intro k
  induction k with
  | zero => intro y x h; omega
  | succ k ih =>
    intro y x h
    unfold PRaw.lancetref01_Gcd.l0
    by_cases hy : y = 0
    · subst hy
      rw [if_neg (by simp), Nat.gcd_zero_right]
    · have h1 : (y : Int) > 0 := by omega
      have h2 : ¬ (y : Int) = 0 := by omega
      have h3 : Int.tmod (x : Int) (y : Int) = ((x % y : Nat) : Int) := by rw [Int.tmod_eq_emod_of_nonneg (by omega)]; rfl
      have h4 : x % y < y := Nat.mod_lt _ (by omega)
      rw [if_pos h1, if_neg h2, h3, ih (x % y) y (by omega)]
      have h5 : Nat.gcd y (x % y) = Nat.gcd x y := by rw [Nat.gcd_comm, ← Nat.gcd_rec, Nat.gcd_comm]
      rw [h5]
theorem ref_gcd {a b : Int} (hb : I64 b) {k : Nat} (hk : big < k) : PRaw.lancetref01_Gcd.f k (a.natAbs : Int) (b.natAbs : Int) = some ((Int.gcd a b : Nat) : Int) := by
  unfold PRaw.lancetref01_Gcd.f
  unfold I64 at hb
  unfold big at hk
  rw [ref_loop k b.natAbs a.natAbs (by omega)]
  rfl
theorem ref_right {n d : Int} (hn : I64 n) (hd : I64 d) {k : Nat} (hk : big < k) : PRaw.lancetref02_Right.f k n d = some (decide (Rt n d)) := by
  unfold PRaw.lancetref02_Right.f
  by_cases h0 : d > 0
  · rw [if_pos h0, ref_size hn, ref_size hd]
    simp only [Option.bind_some]
    rw [ref_gcd hd hk]
    have e : decide (Rt n d) = (((Int.gcd n d : Nat) : Int) == 1) := by
      rw [Bool.eq_iff_iff]
      simp [Rt, h0]
      omega
    rw [e]
    rfl
  · rw [if_neg h0, decide_eq_false (fun h => h0 h.1)]
theorem ref_right_calls {n d : Int} (hn : I64 n) (hd : I64 d) (w : World) : Calls Try.prog 21 #[.agg #[.int .i64 n, .int .i64 d]] w fun e w' => e = .returned (.bool (decide (Rt n d))) ∧ Below w.heap.size w w' :=
  PRaw.lancetref02_Right.calls (big + 1) n d _ w (ref_right hn hd (by omega))
end Go.Proofs.Ytcldlfhnmkogeaa.RatPlain

/- The document's whole numbers and fractions (lancetref01, lancetref02), as they are printed in PRaw, in plain Lean. -/
set_option linter.unusedVariables false
set_option linter.unusedSimpArgs false
namespace Go.Proofs.Ytcldlfhnmkogeaa.RefPRaw
open Go.RowKit Go.Proofs.YtcldlfhnmkogeaaW.PrintWords Go.Proofs.Ytcldlfhnmkogeaa.RatPlain

theorem size {a : Int} (h : I64 a) : PRaw.lancetref01_Size.f a = some (a.natAbs : Int) := by
  unfold I64 at h
  unfold PRaw.lancetref01_Size.f
  by_cases h0 : a < 0
  · rw [if_pos h0, wrap_in (x := a + 1) (by unfold I64; omega), wrap_in (x := -(a + 1)) (by unfold I64; omega), u64_wrap, u64_wrap]
    congr 1
    omega
  · rw [if_neg h0, u64_wrap]
    congr 1
    omega
theorem loop : ∀ (k y x : Nat), y < k → PRaw.lancetref01_Gcd.l0 k (x : Int) (y : Int) = some ((Nat.gcd x y : Nat) : Int) := by
  intro k
  induction k with
  | zero => intro y x h; omega
  | succ k ih =>
    intro y x h
    unfold PRaw.lancetref01_Gcd.l0
    by_cases hy : y = 0
    · subst hy
      rw [if_neg (by simp), Nat.gcd_zero_right]
    · have h1 : (y : Int) > 0 := by omega
      have h2 : ¬ (y : Int) = 0 := by omega
      have h3 : Int.tmod (x : Int) (y : Int) = ((x % y : Nat) : Int) := by rw [Int.tmod_eq_emod_of_nonneg (by omega)]; rfl
      have h4 : x % y < y := Nat.mod_lt _ (by omega)
      rw [if_pos h1, if_neg h2, h3, ih (x % y) y (by omega)]
      have h5 : Nat.gcd y (x % y) = Nat.gcd x y := by rw [Nat.gcd_comm, ← Nat.gcd_rec, Nat.gcd_comm]
      rw [h5]
theorem gcd {a b : Int} (hb : I64 b) {k : Nat} (hk : big < k) : PRaw.lancetref01_Gcd.f k (a.natAbs : Int) (b.natAbs : Int) = some ((Int.gcd a b : Nat) : Int) := by
  unfold PRaw.lancetref01_Gcd.f
  unfold I64 at hb
  unfold big at hk
  rw [loop k b.natAbs a.natAbs (by omega)]
  rfl
theorem wide {a b : Int} (a0 : 0 ≤ a) (a1 : a < 18446744073709551616) (b0 : 0 ≤ b) (b1 : b < 18446744073709551616) :
    PRaw.lancetref01_Wide.f a b = some (a * b / 18446744073709551616, a * b % 18446744073709551616) := by
  unfold PRaw.lancetref01_Wide.f
  rw [Int.tdiv_eq_ediv_of_nonneg a0, Int.tdiv_eq_ediv_of_nonneg b0, Int.tmod_eq_emod_of_nonneg a0, Int.tmod_eq_emod_of_nonneg b0]
  have ha : a = a / 4294967296 * 4294967296 + a % 4294967296 := by omega
  have hb : b = b / 4294967296 * 4294967296 + b % 4294967296 := by omega
  obtain ⟨x, hx⟩ : ∃ x, x = a / 4294967296 := ⟨_, rfl⟩
  obtain ⟨y, hy⟩ : ∃ y, y = a % 4294967296 := ⟨_, rfl⟩
  obtain ⟨u, hu⟩ : ∃ u, u = b / 4294967296 := ⟨_, rfl⟩
  obtain ⟨v, hv⟩ : ∃ v, v = b % 4294967296 := ⟨_, rfl⟩
  have x0 : 0 ≤ x ∧ x ≤ 4294967295 := by omega
  have y0 : 0 ≤ y ∧ y ≤ 4294967295 := by omega
  have u0 : 0 ≤ u ∧ u ≤ 4294967295 := by omega
  have v0 : 0 ≤ v ∧ v ≤ 4294967295 := by omega
  rw [← hx, ← hy] at ha
  rw [← hu, ← hv] at hb
  rw [← hx, ← hy, ← hu, ← hv]
  have wx : IntKind.u64.wrap x = x := wrap_u64_in (by omega) (by omega)
  have wu : IntKind.u64.wrap u = u := wrap_u64_in (by omega) (by omega)
  rw [wx, wu]
  have pA := prod_le x0.1 x0.2 u0.1 u0.2
  have pB := prod_le x0.1 x0.2 v0.1 v0.2
  have pC := prod_le y0.1 y0.2 u0.1 u0.2
  have pD := prod_le y0.1 y0.2 v0.1 v0.2
  have hab : a * b = x * u * 18446744073709551616 + (x * v + y * u) * 4294967296 + y * v := by
    rw [ha, hb]
    grind
  rw [hab]
  clear hab hx hy hu hv ha hb wx wu
  obtain ⟨A, hA⟩ : ∃ A, A = x * u := ⟨_, rfl⟩
  obtain ⟨B, hB⟩ : ∃ A, A = x * v := ⟨_, rfl⟩
  obtain ⟨C, hC⟩ : ∃ A, A = y * u := ⟨_, rfl⟩
  obtain ⟨D, hD⟩ : ∃ A, A = y * v := ⟨_, rfl⟩
  rw [← hA] at pA
  rw [← hB] at pB
  rw [← hC] at pC
  rw [← hD] at pD
  rw [← hA, ← hB, ← hC, ← hD]
  clear hA hB hC hD
  have wA : IntKind.u64.wrap A = A := wrap_u64_in (by omega) (by omega)
  have wB : IntKind.u64.wrap B = B := wrap_u64_in (by omega) (by omega)
  have wC : IntKind.u64.wrap C = C := wrap_u64_in (by omega) (by omega)
  have wD : IntKind.u64.wrap D = D := wrap_u64_in (by omega) (by omega)
  rw [wA, wB, wC, wD, Int.tdiv_eq_ediv_of_nonneg (by omega : 0 ≤ D), Int.tmod_eq_emod_of_nonneg (by omega : 0 ≤ D)]
  have w1 : IntKind.u64.wrap (D / 4294967296) = D / 4294967296 := wrap_u64_in (by omega) (by omega)
  have w2 : IntKind.u64.wrap (C + D / 4294967296) = C + D / 4294967296 := wrap_u64_in (by omega) (by omega)
  rw [w1, w2, Int.tdiv_eq_ediv_of_nonneg (by omega : 0 ≤ C + D / 4294967296), Int.tmod_eq_emod_of_nonneg (by omega : 0 ≤ C + D / 4294967296)]
  have w3 : IntKind.u64.wrap ((C + D / 4294967296) / 4294967296) = (C + D / 4294967296) / 4294967296 := wrap_u64_in (by omega) (by omega)
  have w4 : IntKind.u64.wrap (B + (C + D / 4294967296) % 4294967296) = B + (C + D / 4294967296) % 4294967296 := wrap_u64_in (by omega) (by omega)
  rw [w3, w4, Int.tdiv_eq_ediv_of_nonneg (by omega : 0 ≤ B + (C + D / 4294967296) % 4294967296), Int.tmod_eq_emod_of_nonneg (by omega : 0 ≤ B + (C + D / 4294967296) % 4294967296)]
  have w5 : IntKind.u64.wrap (A + (C + D / 4294967296) / 4294967296) = A + (C + D / 4294967296) / 4294967296 := wrap_u64_in (by omega) (by omega)
  have w6 : IntKind.u64.wrap ((B + (C + D / 4294967296) % 4294967296) / 4294967296) = (B + (C + D / 4294967296) % 4294967296) / 4294967296 := wrap_u64_in (by omega) (by omega)
  rw [w5, w6]
  simp only [u64_wrap]
  congr 2
  · omega
  · omega
theorem mulJ {k : Nat} {P : Int} (h0 : 0 ≤ P) (minus : Bool) : PRaw.lancetref01_Mul.j0 (k + 2) (P / 18446744073709551616) (P % 18446744073709551616) minus = some (RatPlain.watched (if minus = true then -P else P)) := by
  rw [PRaw.lancetref01_Mul.j0]
  by_cases c1 : P / 18446744073709551616 > 0
  · rw [if_pos c1, PRaw.lancetref01_Mul.j1, if_pos rfl, watched_no (by cases minus <;> (unfold I64; simp; omega))]
  · have hm : P % 18446744073709551616 = P := by omega
    rw [if_neg c1, hm]
    by_cases c2 : P > 9223372036854775808
    · rw [if_pos c2, PRaw.lancetref01_Mul.j1, if_pos rfl, watched_no (by cases minus <;> (unfold I64; simp; omega))]
    · rw [if_neg c2]
      cases minus with
      | true =>
        rw [if_pos rfl, PRaw.lancetref01_Mul.j1, if_neg (by simp), if_pos rfl, if_pos rfl, watched_yes (by unfold I64; omega)]
        have : wrap64 (IntKind.u64.wrap (-P)) = -P := by rw [u64_wrap]; unfold wrap64; omega
        rw [this]
      | false =>
        rw [if_neg (by simp), PRaw.lancetref01_Mul.j1, if_neg (show ¬ (false = true) by simp)]
        by_cases c3 : P = 9223372036854775808
        · subst c3
          rw [if_pos (by decide), watched_no (by decide)]
        · rw [if_neg (by simpa using c3), if_neg (show ¬ (false = true) by simp), watched_yes (by unfold I64; omega), wrap_in (by unfold I64; omega)]
theorem abs_mul (a b : Int) : (a.natAbs : Int) * (b.natAbs : Int) = ((a * b).natAbs : Int) := by rw [Int.natAbs_mul]; simp
theorem mul {a b : Int} (ha : I64 a) (hb : I64 b) {k : Nat} (hk : 2 < k) : PRaw.lancetref01_Mul.f k a b = some (RatPlain.watched (a * b)) := by
  obtain ⟨k, rfl⟩ : ∃ m, k = m + 2 := ⟨k - 2, by omega⟩
  have ha' := ha
  have hb' := hb
  unfold I64 at ha' hb'
  unfold PRaw.lancetref01_Mul.f
  rw [size ha, size hb]
  simp only [Option.bind_some]
  rw [wide (by omega) (by omega) (by omega) (by omega), abs_mul]
  simp only [Option.bind_some]
  rw [mulJ (by omega), mulJ (by omega), mulJ (by omega)]
  by_cases c1 : a < 0
  · rw [if_pos c1]
    by_cases c2 : b > 0
    · have := Int.mul_neg_of_neg_of_pos c1 c2
      rw [if_pos c2, if_pos rfl]
      congr 2
      omega
    · have := Int.mul_nonneg_of_nonpos_of_nonpos (show a ≤ 0 by omega) (show b ≤ 0 by omega)
      rw [if_neg c2, if_neg (by omega), if_neg (by simp)]
      congr 2
      omega
  · rw [if_neg c1]
    by_cases c2 : a > 0
    · rw [if_pos c2]
      by_cases c3 : b < 0
      · have := Int.mul_neg_of_pos_of_neg c2 c3
        rw [decide_eq_true c3, if_pos rfl]
        congr 2
        omega
      · have := Int.mul_nonneg (show 0 ≤ a by omega) (show 0 ≤ b by omega)
        rw [decide_eq_false c3, if_neg (by simp)]
        congr 2
        omega
    · have : a = 0 := by omega
      subst this
      rw [if_neg c2, if_neg (by simp)]
      simp

end Go.Proofs.Ytcldlfhnmkogeaa.RefPRaw

/- The document's fractions (lancetref02), walked. -/
set_option linter.unusedVariables false
set_option linter.unusedSimpArgs false
namespace Go.Proofs.Ytcldlfhnmkogeaa.RefWalk
open Go.RowKit Go.Proofs.YtcldlfhnmkogeaaW.PrintWords Go.Proofs.YtcldlfhnmkogeaaW.PrintLast Go.Proofs.Ytcldlfhnmkogeaa.Nats Go.Proofs.Ytcldlfhnmkogeaa.HeapKit Go.Proofs.Ytcldlfhnmkogeaa.RatPlain

theorem size_calls {a : Int} (h : I64 a) (w : World) : Calls Try.prog 51 #[.int .i64 a] w fun e w' => e = .returned (.int .u64 (a.natAbs : Int)) ∧ Below w.heap.size w w' := by
  refine (PRaw.lancetref01_Size.calls a _ w (RefPRaw.size h)).mono ?_
  rintro e w' ⟨rfl, hb⟩
  exact ⟨rfl, hb.below⟩
theorem gcd_calls {a b : Int} (hb : I64 b) (w : World) : Calls Try.prog 50 #[.int .u64 (a.natAbs : Int), .int .u64 (b.natAbs : Int)] w fun e w' => e = .returned (.int .u64 ((Int.gcd a b : Nat) : Int)) ∧ Below w.heap.size w w' := by
  refine (PRaw.lancetref01_Gcd.calls (big + 1) _ _ _ w (RefPRaw.gcd hb (by omega))).mono ?_
  rintro e w' ⟨rfl, hb⟩
  exact ⟨rfl, hb.below⟩
theorem mul_calls01 {a b : Int} (ha : I64 a) (hb : I64 b) {n : Int} {o : Bool} (h : RatPlain.watched (a * b) = (n, o)) (w : World) : Calls Try.prog 80 #[.int .i64 a, .int .i64 b] w fun e w' => e = .returned (.tuple #[.int .i64 n, .bool o]) ∧ Below w.heap.size w w' := by
  refine (PRaw.lancetref01_Mul.calls (big + 1) a b n o w (by rw [RefPRaw.mul ha hb (by unfold big; omega), h])).mono ?_
  rintro e w' ⟨rfl, hb⟩
  exact ⟨rfl, hb.below⟩
theorem add01 {a b : Int} (ha : I64 a) (hb : I64 b) : PRaw.lancetref01_Add.f a b = some (RatPlain.watched (a + b)) := by
  unfold PRaw.lancetref01_Add.f
  rw [u64_wrap, u64_wrap, u64_wrap]
  obtain ⟨s, hs⟩ : ∃ s, s = wrap64 ((a % 18446744073709551616 + b % 18446744073709551616) % 18446744073709551616) := ⟨_, rfl⟩
  rw [← hs]
  unfold I64 at ha hb
  have hs2 : s = wrap64 (a + b) := by rw [hs]; unfold wrap64; omega
  have hs3 := hs2
  unfold wrap64 at hs3
  by_cases hi : I64 (a + b)
  · rw [watched_yes hi]
    have e : s = a + b := by rw [hs2]; exact wrap_in hi
    unfold I64 at hi
    rw [← e]
    repeat' split
    all_goals first | rfl | (exfalso; omega)
  · rw [watched_no hi]
    unfold I64 at hi
    repeat' split
    all_goals first | rfl | (exfalso; omega)
theorem add_calls01 {a b : Int} (ha : I64 a) (hb : I64 b) {n : Int} {o : Bool} (h : RatPlain.watched (a + b) = (n, o)) (w : World) : Calls Try.prog 81 #[.int .i64 a, .int .i64 b] w fun e w' => e = .returned (.tuple #[.int .i64 n, .bool o]) ∧ Below w.heap.size w w' := by
  refine (PRaw.lancetref01_Add.calls a b n o w (by rw [add01 ha hb, h])).mono ?_
  rintro e w' ⟨rfl, hb⟩
  exact ⟨rfl, hb.below⟩

set_option maxRecDepth 100000 in
set_option maxHeartbeats 4000000 in
theorem make_neg {n d : Int} (hn : I64 n) (hd : I64 d) (h0 : 0 < d) (hs : n < 0) (w : World) :
    Calls Try.prog 82 #[.int .i64 n, .int .i64 d] w fun e w' => e = .returned (.tuple #[.agg #[.int .i64 (low n d).1, .int .i64 (low n d).2], .int .i64 0]) ∧ Below w.heap.size w w' := by
  have hg := gcd_pos (a := n) h0
  have s1 := fun w => size_calls hn w
  have s2 := fun w => size_calls hd w
  have s3 := fun w => gcd_calls (a := n) hd w
  have hx : ((n.natAbs : Int).tdiv (Int.gcd n d : Nat)) = -(low n d).1 := by
    show _ = -(n.tdiv (Int.gcd n d : Nat))
    have : (n.natAbs : Int) = -n := by omega
    rw [this]
    rw [Int.neg_tdiv]
  have hy : ((d.natAbs : Int).tdiv (Int.gcd n d : Nat)) = (low n d).2 := by
    have : (d.natAbs : Int) = d := by omega
    rw [this]
    rfl
  have i1 := hn.tdiv hg
  have i2 := hd.tdiv hg
  have k1 : I64 (low n d).1 := i1
  have k2 : I64 (low n d).2 := i2
  have kp : 0 < (low n d).2 := exact_pos h0 (dvd_right n d) hg
  have kx : 0 ≤ ((n.natAbs : Int).tdiv (Int.gcd n d : Nat)) := Int.tdiv_nonneg (by omega) (by omega)
  obtain ⟨m, hm⟩ : ∃ m, (n.natAbs : Int) = m := ⟨_, rfl⟩
  obtain ⟨l, hl⟩ : ∃ m, (d.natAbs : Int) = m := ⟨_, rfl⟩
  obtain ⟨g, hgg⟩ : ∃ m, ((Int.gcd n d : Nat) : Int) = m := ⟨_, rfl⟩
  simp only [hm, hl, hgg] at s1 s2 s3 hx hy kx
  have hg1 : ¬ g = 0 := by omega
  have hg2 : (g == 0) = false := by simp [hg1]
  obtain ⟨x, hxx⟩ : ∃ x, m.tdiv g = x := ⟨_, rfl⟩
  obtain ⟨a, ha⟩ : ∃ a, (low n d).1 = a := ⟨_, rfl⟩
  obtain ⟨y, hyy⟩ : ∃ y, (low n d).2 = y := ⟨_, rfl⟩
  rw [hxx] at kx
  rw [hxx, ha] at hx
  rw [hyy] at hy kp k2
  rw [ha] at k1
  rw [ha, hyy]
  unfold I64 at k1 k2
  have e1 : IntKind.u64.wrap (m.tdiv g) = x := by rw [hxx, u64_wrap]; omega
  have e2 : IntKind.u64.wrap (l.tdiv g) = y := by rw [hy, u64_wrap]; omega
  have e3 : IntKind.i64.wrap y = y := by rw [i64_w]; exact wrap_in k2
  have e4 : IntKind.i64.wrap (IntKind.u64.wrap (-x)) = a := by rw [i64_w, u64_wrap]; unfold wrap64; omega
  have hn1 : (n == 0) = false := by simp; omega
  have hn2 : decide (n < 0) = true := by simp; omega
  have hd1 : (d == 0) = false := by simp; omega
  have hd3 : decide (d < 0) = false := by simp; omega
  have t1 : decide (y > 9223372036854775807) = false := by simp; omega
  have t2 : decide (x > 9223372036854775808) = false := by simp; omega
  have S1 := Lib.hid s1
  have S2 := Lib.hid s2
  have S3 := Lib.hid s3
  clear s1 s2 s3 hx hy hxx ha hyy hm hl hgg hg i1 i2
  go_enter Try.func82, Try.ntmps82
  go_wp2_with fail
  refine (S1.out _).mono ?_
  rintro e w1 ⟨rfl, hb1⟩
  have hB := (b1_start w (.cells #[.int .i64 0, .int .i64 0] 23)).step hb1
  clear hb1
  go_wp2_with fail
  refine (S2.out _).mono ?_
  rintro e w2 ⟨rfl, hb2⟩
  replace hB := hB.step hb2
  clear hb2
  go_wp2_with fail
  refine (S3.out _).mono ?_
  rintro e w3 ⟨rfl, hb3⟩
  replace hB := hB.step hb3
  clear hb3
  have hx_ := hB.b1
  have d_0 : w3.cell? ⟨w.heap.size, 0, none⟩ = some (.int .i64 0) := blk_cell hx_ 0
  have df_0 : w3.frozen? ⟨w.heap.size, 0, none⟩ = false := blk_frozen hx_ 0
  have d_1 : w3.cell? ⟨w.heap.size, 1, none⟩ = some (.int .i64 0) := blk_cell hx_ 1
  have df_1 : w3.frozen? ⟨w.heap.size, 1, none⟩ = false := blk_frozen hx_ 1
  go_wp2_with fail
  have k_ := (blk_set (blk_set hx_ 0 (.int .i64 a)) 1 (.int .i64 y))
  have hB_ := (Below.setCell (Below.setCell hB.be (p := ⟨w.heap.size, 0, none⟩) (Nat.le_refl _) (.int .i64 a)) (p := ⟨w.heap.size, 1, none⟩) (Nat.le_refl _) (.int .i64 y))
  obtain ⟨w_, hw_⟩ : ∃ w_, w_ = (World.setCell (World.setCell w3 ⟨w.heap.size, 0, none⟩ (.int .i64 a)) ⟨w.heap.size, 1, none⟩ (.int .i64 y)) := ⟨_, rfl⟩
  rw [← hw_] at k_ hB_
  try rw [← hw_]
  clear hw_
  have s_0 : w_.cell? ⟨w.heap.size, 0, none⟩ = some (.int .i64 a) := blk_cell k_ 0
  have s_1 : w_.cell? ⟨w.heap.size, 1, none⟩ = some (.int .i64 y) := blk_cell k_ 1
  refine bodyPost_ret (by simp [results, Try.results82, go_sem, s_0, s_1]; try rfl) rfl ?_
  exact ⟨rfl, hB_⟩

set_option maxRecDepth 100000 in
set_option maxHeartbeats 4000000 in
theorem make_pos {n d : Int} (hn : I64 n) (hd : I64 d) (h0 : 0 < d) (hs : 0 < n) (w : World) :
    Calls Try.prog 82 #[.int .i64 n, .int .i64 d] w fun e w' => e = .returned (.tuple #[.agg #[.int .i64 (low n d).1, .int .i64 (low n d).2], .int .i64 0]) ∧ Below w.heap.size w w' := by
  have hg := gcd_pos (a := n) h0
  have s1 := fun w => size_calls hn w
  have s2 := fun w => size_calls hd w
  have s3 := fun w => gcd_calls (a := n) hd w
  have hx : ((n.natAbs : Int).tdiv (Int.gcd n d : Nat)) = (low n d).1 := by
    show _ = n.tdiv (Int.gcd n d : Nat)
    have : (n.natAbs : Int) = n := by omega
    rw [this]
  have hy : ((d.natAbs : Int).tdiv (Int.gcd n d : Nat)) = (low n d).2 := by
    have : (d.natAbs : Int) = d := by omega
    rw [this]
    rfl
  have i1 := hn.tdiv hg
  have i2 := hd.tdiv hg
  have k1 : I64 (low n d).1 := i1
  have k2 : I64 (low n d).2 := i2
  have kp : 0 < (low n d).2 := exact_pos h0 (dvd_right n d) hg
  have kx : 0 ≤ ((n.natAbs : Int).tdiv (Int.gcd n d : Nat)) := Int.tdiv_nonneg (by omega) (by omega)
  obtain ⟨m, hm⟩ : ∃ m, (n.natAbs : Int) = m := ⟨_, rfl⟩
  obtain ⟨l, hl⟩ : ∃ m, (d.natAbs : Int) = m := ⟨_, rfl⟩
  obtain ⟨g, hgg⟩ : ∃ m, ((Int.gcd n d : Nat) : Int) = m := ⟨_, rfl⟩
  simp only [hm, hl, hgg] at s1 s2 s3 hx hy kx
  have hg1 : ¬ g = 0 := by omega
  have hg2 : (g == 0) = false := by simp [hg1]
  obtain ⟨x, hxx⟩ : ∃ x, m.tdiv g = x := ⟨_, rfl⟩
  obtain ⟨a, ha⟩ : ∃ a, (low n d).1 = a := ⟨_, rfl⟩
  obtain ⟨y, hyy⟩ : ∃ y, (low n d).2 = y := ⟨_, rfl⟩
  rw [hxx] at kx
  rw [hxx, ha] at hx
  rw [hyy] at hy kp k2
  rw [ha] at k1
  rw [ha, hyy]
  unfold I64 at k1 k2
  have e1 : IntKind.u64.wrap (m.tdiv g) = x := by rw [hxx, u64_wrap]; omega
  have e2 : IntKind.u64.wrap (l.tdiv g) = y := by rw [hy, u64_wrap]; omega
  have e3 : IntKind.i64.wrap y = y := by rw [i64_w]; exact wrap_in k2
  have e4 : IntKind.i64.wrap x = a := by rw [i64_w, hx]; exact wrap_in k1
  have hn1 : (n == 0) = false := by simp; omega
  have hn2 : decide (n < 0) = false := by simp; omega
  have hn3 : (x == 9223372036854775808) = false := by simp; omega
  have hd1 : (d == 0) = false := by simp; omega
  have hd3 : decide (d < 0) = false := by simp; omega
  have t1 : decide (y > 9223372036854775807) = false := by simp; omega
  have t2 : decide (x > 9223372036854775808) = false := by simp; omega
  have S1 := Lib.hid s1
  have S2 := Lib.hid s2
  have S3 := Lib.hid s3
  clear s1 s2 s3 hx hy hxx ha hyy hm hl hgg hg i1 i2
  go_enter Try.func82, Try.ntmps82
  go_wp2_with fail
  refine (S1.out _).mono ?_
  rintro e w1 ⟨rfl, hb1⟩
  have hB := (b1_start w (.cells #[.int .i64 0, .int .i64 0] 23)).step hb1
  clear hb1
  go_wp2_with fail
  refine (S2.out _).mono ?_
  rintro e w2 ⟨rfl, hb2⟩
  replace hB := hB.step hb2
  clear hb2
  go_wp2_with fail
  refine (S3.out _).mono ?_
  rintro e w3 ⟨rfl, hb3⟩
  replace hB := hB.step hb3
  clear hb3
  have hx_ := hB.b1
  have d_0 : w3.cell? ⟨w.heap.size, 0, none⟩ = some (.int .i64 0) := blk_cell hx_ 0
  have df_0 : w3.frozen? ⟨w.heap.size, 0, none⟩ = false := blk_frozen hx_ 0
  have d_1 : w3.cell? ⟨w.heap.size, 1, none⟩ = some (.int .i64 0) := blk_cell hx_ 1
  have df_1 : w3.frozen? ⟨w.heap.size, 1, none⟩ = false := blk_frozen hx_ 1
  go_wp2_with fail
  have k_ := (blk_set (blk_set hx_ 0 (.int .i64 a)) 1 (.int .i64 y))
  have hB_ := (Below.setCell (Below.setCell hB.be (p := ⟨w.heap.size, 0, none⟩) (Nat.le_refl _) (.int .i64 a)) (p := ⟨w.heap.size, 1, none⟩) (Nat.le_refl _) (.int .i64 y))
  obtain ⟨w_, hw_⟩ : ∃ w_, w_ = (World.setCell (World.setCell w3 ⟨w.heap.size, 0, none⟩ (.int .i64 a)) ⟨w.heap.size, 1, none⟩ (.int .i64 y)) := ⟨_, rfl⟩
  rw [← hw_] at k_ hB_
  try rw [← hw_]
  clear hw_
  have s_0 : w_.cell? ⟨w.heap.size, 0, none⟩ = some (.int .i64 a) := blk_cell k_ 0
  have s_1 : w_.cell? ⟨w.heap.size, 1, none⟩ = some (.int .i64 y) := blk_cell k_ 1
  refine bodyPost_ret (by simp [results, Try.results82, go_sem, s_0, s_1]; try rfl) rfl ?_
  exact ⟨rfl, hB_⟩

set_option maxRecDepth 100000 in
set_option maxHeartbeats 4000000 in
theorem make_zero {d : Int} (hn : I64 0) (hd : I64 d) (h0 : 0 < d) (w : World) :
    Calls Try.prog 82 #[.int .i64 0, .int .i64 d] w fun e w' => e = .returned (.tuple #[.agg #[.int .i64 (low (0 : Int) d).1, .int .i64 (low (0 : Int) d).2], .int .i64 0]) ∧ Below w.heap.size w w' := by
  have hg := gcd_pos (a := 0) h0
  have s1 := fun w => size_calls hn w
  have s2 := fun w => size_calls hd w
  have s3 := fun w => gcd_calls (a := 0) hd w
  have hx : (((0 : Int).natAbs : Int).tdiv (Int.gcd (0 : Int) d : Nat)) = (low (0 : Int) d).1 := by
    show _ = (0 : Int).tdiv (Int.gcd (0 : Int) d : Nat)
    have : ((0 : Int).natAbs : Int) = (0 : Int) := rfl
    rw [this]
  have hy : ((d.natAbs : Int).tdiv (Int.gcd (0 : Int) d : Nat)) = (low (0 : Int) d).2 := by
    have : (d.natAbs : Int) = d := by omega
    rw [this]
    rfl
  have i1 := hn.tdiv hg
  have i2 := hd.tdiv hg
  have k1 : I64 (low (0 : Int) d).1 := i1
  have k2 : I64 (low (0 : Int) d).2 := i2
  have kp : 0 < (low (0 : Int) d).2 := exact_pos h0 (dvd_right (0 : Int) d) hg
  have kx : 0 ≤ (((0 : Int).natAbs : Int).tdiv (Int.gcd (0 : Int) d : Nat)) := Int.tdiv_nonneg (by omega) (by omega)
  obtain ⟨m, hm⟩ : ∃ m, ((0 : Int).natAbs : Int) = m := ⟨_, rfl⟩
  obtain ⟨l, hl⟩ : ∃ m, (d.natAbs : Int) = m := ⟨_, rfl⟩
  obtain ⟨g, hgg⟩ : ∃ m, ((Int.gcd (0 : Int) d : Nat) : Int) = m := ⟨_, rfl⟩
  simp only [hm, hl, hgg] at s1 s2 s3 hx hy kx
  have hg1 : ¬ g = 0 := by omega
  have hg2 : (g == 0) = false := by simp [hg1]
  obtain ⟨x, hxx⟩ : ∃ x, m.tdiv g = x := ⟨_, rfl⟩
  obtain ⟨a, ha⟩ : ∃ a, (low (0 : Int) d).1 = a := ⟨_, rfl⟩
  obtain ⟨y, hyy⟩ : ∃ y, (low (0 : Int) d).2 = y := ⟨_, rfl⟩
  rw [hxx] at kx
  rw [hxx, ha] at hx
  rw [hyy] at hy kp k2
  rw [ha] at k1
  rw [ha, hyy]
  unfold I64 at k1 k2
  have e1 : IntKind.u64.wrap (m.tdiv g) = x := by rw [hxx, u64_wrap]; omega
  have e2 : IntKind.u64.wrap (l.tdiv g) = y := by rw [hy, u64_wrap]; omega
  have e3 : IntKind.i64.wrap y = y := by rw [i64_w]; exact wrap_in k2
  have e4 : IntKind.i64.wrap x = a := by rw [i64_w, hx]; exact wrap_in k1
  have hn3 : (x == 9223372036854775808) = false := by simp; omega
  have hd1 : (d == 0) = false := by simp; omega
  have hd3 : decide (d < 0) = false := by simp; omega
  have t1 : decide (y > 9223372036854775807) = false := by simp; omega
  have t2 : decide (x > 9223372036854775808) = false := by simp; omega
  have S1 := Lib.hid s1
  have S2 := Lib.hid s2
  have S3 := Lib.hid s3
  clear s1 s2 s3 hx hy hxx ha hyy hm hl hgg hg i1 i2
  go_enter Try.func82, Try.ntmps82
  go_wp2_with fail
  refine (S1.out _).mono ?_
  rintro e w1 ⟨rfl, hb1⟩
  have hB := (b1_start w (.cells #[.int .i64 0, .int .i64 0] 23)).step hb1
  clear hb1
  go_wp2_with fail
  refine (S2.out _).mono ?_
  rintro e w2 ⟨rfl, hb2⟩
  replace hB := hB.step hb2
  clear hb2
  go_wp2_with fail
  refine (S3.out _).mono ?_
  rintro e w3 ⟨rfl, hb3⟩
  replace hB := hB.step hb3
  clear hb3
  have hx_ := hB.b1
  have d_0 : w3.cell? ⟨w.heap.size, 0, none⟩ = some (.int .i64 0) := blk_cell hx_ 0
  have df_0 : w3.frozen? ⟨w.heap.size, 0, none⟩ = false := blk_frozen hx_ 0
  have d_1 : w3.cell? ⟨w.heap.size, 1, none⟩ = some (.int .i64 0) := blk_cell hx_ 1
  have df_1 : w3.frozen? ⟨w.heap.size, 1, none⟩ = false := blk_frozen hx_ 1
  go_wp2_with fail
  have k_ := (blk_set (blk_set hx_ 0 (.int .i64 a)) 1 (.int .i64 y))
  have hB_ := (Below.setCell (Below.setCell hB.be (p := ⟨w.heap.size, 0, none⟩) (Nat.le_refl _) (.int .i64 a)) (p := ⟨w.heap.size, 1, none⟩) (Nat.le_refl _) (.int .i64 y))
  obtain ⟨w_, hw_⟩ : ∃ w_, w_ = (World.setCell (World.setCell w3 ⟨w.heap.size, 0, none⟩ (.int .i64 a)) ⟨w.heap.size, 1, none⟩ (.int .i64 y)) := ⟨_, rfl⟩
  rw [← hw_] at k_ hB_
  try rw [← hw_]
  clear hw_
  have s_0 : w_.cell? ⟨w.heap.size, 0, none⟩ = some (.int .i64 a) := blk_cell k_ 0
  have s_1 : w_.cell? ⟨w.heap.size, 1, none⟩ = some (.int .i64 y) := blk_cell k_ 1
  refine bodyPost_ret (by simp [results, Try.results82, go_sem, s_0, s_1]; try rfl) rfl ?_
  exact ⟨rfl, hB_⟩

theorem refmake_calls {n d : Int} (hn : I64 n) (hd : I64 d) (h0 : 0 < d) (w : World) :
    Calls Try.prog 82 #[.int .i64 n, .int .i64 d] w fun e w' => e = .returned (.tuple #[.agg #[.int .i64 (low n d).1, .int .i64 (low n d).2], .int .i64 0]) ∧ Below w.heap.size w w' := by
  rcases Int.lt_trichotomy n 0 with h | h | h
  · exact make_neg hn hd h0 h w
  · subst h
    exact make_zero hn hd h0 w
  · exact make_pos hn hd h0 h w
end Go.Proofs.Ytcldlfhnmkogeaa.RefWalk

/- The document's sums and products of fractions (lancetref02), walked. -/
set_option linter.unusedVariables false
set_option linter.unusedSimpArgs false
namespace Go.Proofs.Ytcldlfhnmkogeaa.RefWalk
open Go.RowKit Go.Proofs.YtcldlfhnmkogeaaW.PrintWords Go.Proofs.YtcldlfhnmkogeaaW.PrintLast Go.Proofs.Ytcldlfhnmkogeaa.Nats Go.Proofs.Ytcldlfhnmkogeaa.HeapKit Go.Proofs.Ytcldlfhnmkogeaa.RatPlain

/-- What the document answers. -/
def toldB (r : Option (Int × Int)) : Int × Int × Bool := match r with | some p => (p.1, p.2, true) | none => (0, 0, false)
def ansB (r : Int × Int × Bool) : Ending := .returned (.tuple #[.agg #[.int .i64 r.1, .int .i64 r.2.1], .bool r.2.2])
theorem wrap_of {x y : Int} (h : x = y) (hi : I64 y) : wrap64 x = y := by rw [h]; exact wrap_in hi
set_option maxRecDepth 100000 in
set_option maxHeartbeats 4000000 in
theorem refmul_calls {an ad bn bd : Int} (h1 : I64 an) (h2 : I64 ad) (h3 : I64 bn) (h4 : I64 bd) (ra : Rt an ad) (rb : Rt bn bd) (w : World) :
    Calls Try.prog 59 #[.agg #[.int .i64 an, .int .i64 ad], .agg #[.int .i64 bn, .int .i64 bd]] w fun e w' => e = ansB (toldB (mulR an ad bn bd)) ∧ Below w.heap.size w w' := by
  have hg := gcd_pos (a := an) rb.1
  have hh := gcd_pos (a := bn) ra.1
  have lg := gcd_le (a := an) h4 rb.1
  have lh := gcd_le (a := bn) h2 ra.1
  have i1 := h1.tdiv hg
  have i2 := h4.tdiv hg
  have i3 := h3.tdiv hh
  have i4 := h2.tdiv hh
  obtain ⟨n, o1, e1, f1, g1⟩ := watch (an.tdiv (Int.gcd an bd : Nat) * bn.tdiv (Int.gcd bn ad : Nat))
  obtain ⟨d, o2, e2, f2, g2⟩ := watch (bd.tdiv (Int.gcd an bd : Nat) * ad.tdiv (Int.gcd bn ad : Nat))
  have hpos : 0 < bd.tdiv (Int.gcd an bd : Nat) * ad.tdiv (Int.gcd bn ad : Nat) :=
    Int.mul_pos (exact_pos rb.1 (dvd_right _ _) (gcd_pos rb.1)) (exact_pos ra.1 (dvd_right _ _) (gcd_pos ra.1))
  have m1 := fun w => mul_calls01 i1 i3 e1 w
  have m2 := fun w => mul_calls01 i2 i4 e2 w
  have w1 := wrap_in i1
  have w2 := wrap_in i2
  have w3 := wrap_in i3
  have w4 := wrap_in i4
  rw [← w1, ← w3] at m1
  rw [← w2, ← w4] at m2
  have s1 := fun w => size_calls h1 w
  have s2 := fun w => size_calls h4 w
  have s3 := fun w => gcd_calls (a := an) h4 w
  have s4 := fun w => size_calls h3 w
  have s5 := fun w => size_calls h2 w
  have s6 := fun w => gcd_calls (a := bn) h2 w
  have hM : mulR an ad bn bd = if I64 (an.tdiv (Int.gcd an bd : Nat) * bn.tdiv (Int.gcd bn ad : Nat)) ∧ I64 (bd.tdiv (Int.gcd an bd : Nat) * ad.tdiv (Int.gcd bn ad : Nat)) then some (low (an.tdiv (Int.gcd an bd : Nat) * bn.tdiv (Int.gcd bn ad : Nat)) (bd.tdiv (Int.gcd an bd : Nat) * ad.tdiv (Int.gcd bn ad : Nat))) else none := rfl
  have k1 : o1 = true → o2 = true → I64 n ∧ I64 d ∧ 0 < d ∧ mulR an ad bn bd = some (low n d) := by
    intro c1 c2
    have a1 := f1 c1
    have a2 := f2 c2
    refine ⟨a1.2 ▸ a1.1, a2.2 ▸ a2.1, a2.2 ▸ hpos, ?_⟩
    rw [hM, if_pos ⟨a1.1, a2.1⟩, a1.2, a2.2]
  have k2 : o1 = false → mulR an ad bn bd = none := fun c => by rw [hM, if_neg (fun h => g1 c h.1)]
  have k3 : o2 = false → mulR an ad bn bd = none := fun c => by rw [hM, if_neg (fun h => g2 c h.2)]
  clear hM f1 f2 g1 g2 e1 e2 hpos w1 w2 w3 w4 i1 i2 i3 i4
  obtain ⟨M, hMM⟩ : ∃ M, mulR an ad bn bd = M := ⟨_, rfl⟩
  rw [hMM] at k1 k2 k3 ⊢
  clear hMM
  obtain ⟨q1, h_1⟩ : ∃ m, (an.natAbs : Int) = m := ⟨_, rfl⟩
  obtain ⟨q2, h_2⟩ : ∃ m, (bd.natAbs : Int) = m := ⟨_, rfl⟩
  obtain ⟨q3, h_3⟩ : ∃ m, (bn.natAbs : Int) = m := ⟨_, rfl⟩
  obtain ⟨q4, h_4⟩ : ∃ m, (ad.natAbs : Int) = m := ⟨_, rfl⟩
  obtain ⟨g, h_5⟩ : ∃ m, ((Int.gcd an bd : Nat) : Int) = m := ⟨_, rfl⟩
  obtain ⟨h, h_6⟩ : ∃ m, ((Int.gcd bn ad : Nat) : Int) = m := ⟨_, rfl⟩
  simp only [h_1, h_2, h_3, h_4, h_5, h_6] at s1 s2 s3 s4 s5 s6
  simp only [h_5, h_6] at m1 m2
  have gz : ¬ g = 0 := by omega
  have hz : ¬ h = 0 := by omega
  have gz2 : (g == 0) = false := by simp [gz]
  have hz2 : (h == 0) = false := by simp [hz]
  have eg : wrap64 g = g := wrap_in (by unfold I64; omega)
  have eh : wrap64 h = h := wrap_in (by unfold I64; omega)
  clear h_1 h_2 h_3 h_4 h_5 h_6 hg hh lg lh
  have S1 := Lib.hid s1
  have S2 := Lib.hid s2
  have S3 := Lib.hid s3
  have S4 := Lib.hid s4
  have S5 := Lib.hid s5
  have S6 := Lib.hid s6
  have M1 := Lib.hid m1
  have M2 := Lib.hid m2
  have K1 := Lib.hid k1
  have K2 := Lib.hid k2
  have K3 := Lib.hid k3
  have EG := Lib.hid eg
  have EH := Lib.hid eh
  clear s1 s2 s3 s4 s5 s6 m1 m2 k1 k2 k3 eg eh
  have hB := b3_start w (.cells #[.int .i64 an, .int .i64 ad] 23) (.cells #[.int .i64 bn, .int .i64 bd] 23) (.cells #[.int .i64 0, .int .i64 0] 23)
  go_enter Try.func59, Try.ntmps59
  go_wp2_with fail
  refine start_ (n := 9) (S := fun wx => B3 w wx (.cells #[.int .i64 an, .int .i64 ad] 23) (.cells #[.int .i64 bn, .int .i64 bd] 23) (.cells #[.int .i64 0, .int .i64 0] 23)) (ds := []) #[false, false, false, false, false, false, false, false, false] (by kernel_rfl) rfl rfl (hB.step (below_drew (Below.refl _ _))) (fun hHeld => ?_)
  refine pure_ (i := 0) (N := some 14) (v := ?_) (a' := ?_) #[true, false, false, false, false, false, false, false, false] rfl rfl (by kernel_rfl) (fun _ _ _ h => h) (Or.inl ⟨by rfl, ?_⟩) ?_ ?_
  rotate_left
  · intro w'
    go_simp
    try with_reducible rfl
  rotate_left
  · simp only [Act.put, List.setIfInBounds_toArray, List.set_cons_zero, List.set_cons_succ, i64_w, i32_w]
    rfl
  refine take_ (i := 1) (N := some 15) (v := ?_) (a' := ?_) #[true, true, false, false, false, false, false, false, false] rfl rfl (by kernel_rfl) (fun _ _ _ h => h) (Or.inl ⟨by rfl, ?_⟩) hHeld ?_ ?_
  rotate_left
  · rintro w' hh
    have s0 : w'.cell? ⟨w.heap.size, 0, none⟩ = some (.int .i64 an) := blk_cell hh.b1 0
    have s1 : w'.cell? ⟨w.heap.size, 1, none⟩ = some (.int .i64 ad) := blk_cell hh.b1 1
    have s2 : w'.cell? ⟨w.heap.size + 1, 0, none⟩ = some (.int .i64 bn) := blk_cell hh.b2 0
    have s3 : w'.cell? ⟨w.heap.size + 1, 1, none⟩ = some (.int .i64 bd) := blk_cell hh.b2 1
    go_simp
    with_reducible rfl
  rotate_left
  · simp only [Act.put, List.setIfInBounds_toArray, List.set_cons_zero, List.set_cons_succ, i64_w, i32_w]
    rfl
  refine pure_ (i := 3) (N := some 17) (v := ?_) (a' := ?_) #[true, true, false, true, false, false, false, false, false] rfl rfl (by kernel_rfl) (fun _ _ _ h => h) (Or.inl ⟨by rfl, ?_⟩) ?_ ?_
  rotate_left
  · intro w'
    go_simp
    try with_reducible rfl
  rotate_left
  · simp only [Act.put, List.setIfInBounds_toArray, List.set_cons_zero, List.set_cons_succ, i64_w, i32_w]
    rfl
  refine take_ (i := 4) (N := some 18) (v := ?_) (a' := ?_) #[true, true, false, true, true, false, false, false, false] rfl rfl (by kernel_rfl) (fun _ _ _ h => h) (Or.inl ⟨by rfl, ?_⟩) hHeld ?_ ?_
  rotate_left
  · rintro w' hh
    have s0 : w'.cell? ⟨w.heap.size, 0, none⟩ = some (.int .i64 an) := blk_cell hh.b1 0
    have s1 : w'.cell? ⟨w.heap.size, 1, none⟩ = some (.int .i64 ad) := blk_cell hh.b1 1
    have s2 : w'.cell? ⟨w.heap.size + 1, 0, none⟩ = some (.int .i64 bn) := blk_cell hh.b2 0
    have s3 : w'.cell? ⟨w.heap.size + 1, 1, none⟩ = some (.int .i64 bd) := blk_cell hh.b2 1
    go_simp
    with_reducible rfl
  rotate_left
  · simp only [Act.put, List.setIfInBounds_toArray, List.set_cons_zero, List.set_cons_succ, i64_w, i32_w]
    rfl
  refine one_ (i := 2) (N := some 16) #[true, true, true, true, true, false, false, false, false] rfl rfl (by kernel_rfl) (by decide) (fun K hK => ?_)
  refine goes_ Try.func51 (by kernel_rfl) rfl #[.int .i64 an] (by rfl) rfl rfl (by (try simp only [List.map_toArray, List.map_cons, List.map_nil]); first | done | rfl) ?_
  refine (S1.out _).mono ?_
  rintro e wz ⟨rfl, hb_⟩
  refine ⟨_, rfl, ?_⟩
  refine hK.out _ _ (hHeld.step hb_) (fun hHeld => ?_)
  clear hK K
  refine norm_ (a' := ?_) ?_ ?_
  rotate_left
  · show Act.put _ (some 16) _ = _
    simp only [Act.put, List.setIfInBounds_toArray, List.set_cons_zero, List.set_cons_succ, i64_w, i32_w]
    rfl
  refine one_ (i := 5) (N := some 19) #[true, true, true, true, true, true, false, false, false] rfl rfl (by kernel_rfl) (by decide) (fun K hK => ?_)
  refine goes_ Try.func51 (by kernel_rfl) rfl #[.int .i64 bd] (by rfl) rfl rfl (by (try simp only [List.map_toArray, List.map_cons, List.map_nil]); first | done | rfl) ?_
  refine (S2.out _).mono ?_
  rintro e wz ⟨rfl, hb_⟩
  refine ⟨_, rfl, ?_⟩
  refine hK.out _ _ (hHeld.step hb_) (fun hHeld => ?_)
  clear hK K
  refine norm_ (a' := ?_) ?_ ?_
  rotate_left
  · show Act.put _ (some 19) _ = _
    simp only [Act.put, List.setIfInBounds_toArray, List.set_cons_zero, List.set_cons_succ, i64_w, i32_w]
    rfl
  refine one_ (i := 6) (N := some 20) #[true, true, true, true, true, true, true, false, false] rfl rfl (by kernel_rfl) (by decide) (fun K hK => ?_)
  refine goes_ Try.func50 (by kernel_rfl) rfl #[.int .u64 q1, .int .u64 q2] (by rfl) rfl rfl (by (try simp only [List.map_toArray, List.map_cons, List.map_nil]); first | done | rfl) ?_
  refine (S3.out _).mono ?_
  rintro e wz ⟨rfl, hb_⟩
  refine ⟨_, rfl, ?_⟩
  refine hK.out _ _ (hHeld.step hb_) (fun hHeld => ?_)
  clear hK K
  refine norm_ (a' := ?_) ?_ ?_
  rotate_left
  · show Act.put _ (some 20) _ = _
    simp only [Act.put, List.setIfInBounds_toArray, List.set_cons_zero, List.set_cons_succ, i64_w, i32_w]
    rfl
  refine pure_ (i := 7) (N := some 21) (v := ?_) (a' := ?_) #[true, true, true, true, true, true, true, true, false] rfl rfl (by kernel_rfl) (fun _ _ _ h => h) (Or.inl ⟨by rfl, ?_⟩) ?_ ?_
  rotate_left
  · intro w'
    go_simp
    try with_reducible rfl
  rotate_left
  · simp only [Act.put, List.setIfInBounds_toArray, List.set_cons_zero, List.set_cons_succ, i64_w, i32_w]
    rfl
  refine pure_ (i := 8) (N := some 6) (v := ?_) (a' := ?_) #[true, true, true, true, true, true, true, true, true] rfl rfl (by kernel_rfl) (fun _ _ _ h => h) (Or.inl ⟨by rfl, ?_⟩) ?_ ?_
  rotate_left
  · intro w'
    go_simp
    try with_reducible rfl
  rotate_left
  · simp only [Act.put, List.setIfInBounds_toArray, List.set_cons_zero, List.set_cons_succ, i64_w, i32_w]
    rfl
  refine done_ (by kernel_rfl) ?_
  clear hB
  have hB := hHeld
  clear hHeld
  rw [EG.out]
  go_wp2_with fail
  refine start_ (n := 9) (S := fun wx => B3 w wx (.cells #[.int .i64 an, .int .i64 ad] 23) (.cells #[.int .i64 bn, .int .i64 bd] 23) (.cells #[.int .i64 0, .int .i64 0] 23)) (ds := []) #[false, false, false, false, false, false, false, false, false] (by kernel_rfl) rfl rfl (hB.step (below_drew (Below.refl _ _))) (fun hHeld => ?_)
  refine pure_ (i := 0) (N := some 22) (v := ?_) (a' := ?_) #[true, false, false, false, false, false, false, false, false] rfl rfl (by kernel_rfl) (fun _ _ _ h => h) (Or.inl ⟨by rfl, ?_⟩) ?_ ?_
  rotate_left
  · intro w'
    go_simp
    try with_reducible rfl
  rotate_left
  · simp only [Act.put, List.setIfInBounds_toArray, List.set_cons_zero, List.set_cons_succ, i64_w, i32_w]
    rfl
  refine take_ (i := 1) (N := some 23) (v := ?_) (a' := ?_) #[true, true, false, false, false, false, false, false, false] rfl rfl (by kernel_rfl) (fun _ _ _ h => h) (Or.inl ⟨by rfl, ?_⟩) hHeld ?_ ?_
  rotate_left
  · rintro w' hh
    have s0 : w'.cell? ⟨w.heap.size, 0, none⟩ = some (.int .i64 an) := blk_cell hh.b1 0
    have s1 : w'.cell? ⟨w.heap.size, 1, none⟩ = some (.int .i64 ad) := blk_cell hh.b1 1
    have s2 : w'.cell? ⟨w.heap.size + 1, 0, none⟩ = some (.int .i64 bn) := blk_cell hh.b2 0
    have s3 : w'.cell? ⟨w.heap.size + 1, 1, none⟩ = some (.int .i64 bd) := blk_cell hh.b2 1
    go_simp
    with_reducible rfl
  rotate_left
  · simp only [Act.put, List.setIfInBounds_toArray, List.set_cons_zero, List.set_cons_succ, i64_w, i32_w]
    rfl
  refine pure_ (i := 3) (N := some 25) (v := ?_) (a' := ?_) #[true, true, false, true, false, false, false, false, false] rfl rfl (by kernel_rfl) (fun _ _ _ h => h) (Or.inl ⟨by rfl, ?_⟩) ?_ ?_
  rotate_left
  · intro w'
    go_simp
    try with_reducible rfl
  rotate_left
  · simp only [Act.put, List.setIfInBounds_toArray, List.set_cons_zero, List.set_cons_succ, i64_w, i32_w]
    rfl
  refine take_ (i := 4) (N := some 26) (v := ?_) (a' := ?_) #[true, true, false, true, true, false, false, false, false] rfl rfl (by kernel_rfl) (fun _ _ _ h => h) (Or.inl ⟨by rfl, ?_⟩) hHeld ?_ ?_
  rotate_left
  · rintro w' hh
    have s0 : w'.cell? ⟨w.heap.size, 0, none⟩ = some (.int .i64 an) := blk_cell hh.b1 0
    have s1 : w'.cell? ⟨w.heap.size, 1, none⟩ = some (.int .i64 ad) := blk_cell hh.b1 1
    have s2 : w'.cell? ⟨w.heap.size + 1, 0, none⟩ = some (.int .i64 bn) := blk_cell hh.b2 0
    have s3 : w'.cell? ⟨w.heap.size + 1, 1, none⟩ = some (.int .i64 bd) := blk_cell hh.b2 1
    go_simp
    with_reducible rfl
  rotate_left
  · simp only [Act.put, List.setIfInBounds_toArray, List.set_cons_zero, List.set_cons_succ, i64_w, i32_w]
    rfl
  refine one_ (i := 2) (N := some 24) #[true, true, true, true, true, false, false, false, false] rfl rfl (by kernel_rfl) (by decide) (fun K hK => ?_)
  refine goes_ Try.func51 (by kernel_rfl) rfl #[.int .i64 bn] (by rfl) rfl rfl (by (try simp only [List.map_toArray, List.map_cons, List.map_nil]); first | done | rfl) ?_
  refine (S4.out _).mono ?_
  rintro e wz ⟨rfl, hb_⟩
  refine ⟨_, rfl, ?_⟩
  refine hK.out _ _ (hHeld.step hb_) (fun hHeld => ?_)
  clear hK K
  refine norm_ (a' := ?_) ?_ ?_
  rotate_left
  · show Act.put _ (some 24) _ = _
    simp only [Act.put, List.setIfInBounds_toArray, List.set_cons_zero, List.set_cons_succ, i64_w, i32_w]
    rfl
  refine one_ (i := 5) (N := some 27) #[true, true, true, true, true, true, false, false, false] rfl rfl (by kernel_rfl) (by decide) (fun K hK => ?_)
  refine goes_ Try.func51 (by kernel_rfl) rfl #[.int .i64 ad] (by rfl) rfl rfl (by (try simp only [List.map_toArray, List.map_cons, List.map_nil]); first | done | rfl) ?_
  refine (S5.out _).mono ?_
  rintro e wz ⟨rfl, hb_⟩
  refine ⟨_, rfl, ?_⟩
  refine hK.out _ _ (hHeld.step hb_) (fun hHeld => ?_)
  clear hK K
  refine norm_ (a' := ?_) ?_ ?_
  rotate_left
  · show Act.put _ (some 27) _ = _
    simp only [Act.put, List.setIfInBounds_toArray, List.set_cons_zero, List.set_cons_succ, i64_w, i32_w]
    rfl
  refine one_ (i := 6) (N := some 28) #[true, true, true, true, true, true, true, false, false] rfl rfl (by kernel_rfl) (by decide) (fun K hK => ?_)
  refine goes_ Try.func50 (by kernel_rfl) rfl #[.int .u64 q3, .int .u64 q4] (by rfl) rfl rfl (by (try simp only [List.map_toArray, List.map_cons, List.map_nil]); first | done | rfl) ?_
  refine (S6.out _).mono ?_
  rintro e wz ⟨rfl, hb_⟩
  refine ⟨_, rfl, ?_⟩
  refine hK.out _ _ (hHeld.step hb_) (fun hHeld => ?_)
  clear hK K
  refine norm_ (a' := ?_) ?_ ?_
  rotate_left
  · show Act.put _ (some 28) _ = _
    simp only [Act.put, List.setIfInBounds_toArray, List.set_cons_zero, List.set_cons_succ, i64_w, i32_w]
    rfl
  refine pure_ (i := 7) (N := some 29) (v := ?_) (a' := ?_) #[true, true, true, true, true, true, true, true, false] rfl rfl (by kernel_rfl) (fun _ _ _ h => h) (Or.inl ⟨by rfl, ?_⟩) ?_ ?_
  rotate_left
  · intro w'
    go_simp
    try with_reducible rfl
  rotate_left
  · simp only [Act.put, List.setIfInBounds_toArray, List.set_cons_zero, List.set_cons_succ, i64_w, i32_w]
    rfl
  refine pure_ (i := 8) (N := some 7) (v := ?_) (a' := ?_) #[true, true, true, true, true, true, true, true, true] rfl rfl (by kernel_rfl) (fun _ _ _ h => h) (Or.inl ⟨by rfl, ?_⟩) ?_ ?_
  rotate_left
  · intro w'
    go_simp
    try with_reducible rfl
  rotate_left
  · simp only [Act.put, List.setIfInBounds_toArray, List.set_cons_zero, List.set_cons_succ, i64_w, i32_w]
    rfl
  refine done_ (by kernel_rfl) ?_
  clear hB
  have hB := hHeld
  clear hHeld
  rw [EH.out]
  go_wp2_with fail
  refine start_ (n := 14) (S := fun wx => B3 w wx (.cells #[.int .i64 an, .int .i64 ad] 23) (.cells #[.int .i64 bn, .int .i64 bd] 23) (.cells #[.int .i64 0, .int .i64 0] 23)) (ds := []) #[false, false, false, false, false, false, false, false, false, false, false, false, false, false] (by kernel_rfl) rfl rfl (hB.step (below_drew (Below.refl _ _))) (fun hHeld => ?_)
  refine pure_ (i := 0) (N := some 31) (v := ?_) (a' := ?_) #[true, false, false, false, false, false, false, false, false, false, false, false, false, false] rfl rfl (by kernel_rfl) (fun _ _ _ h => h) (Or.inl ⟨by rfl, ?_⟩) ?_ ?_
  rotate_left
  · intro w'
    go_simp
    try with_reducible rfl
  rotate_left
  · simp only [Act.put, List.setIfInBounds_toArray, List.set_cons_zero, List.set_cons_succ, i64_w, i32_w]
    rfl
  refine take_ (i := 1) (N := some 32) (v := ?_) (a' := ?_) #[true, true, false, false, false, false, false, false, false, false, false, false, false, false] rfl rfl (by kernel_rfl) (fun _ _ _ h => h) (Or.inl ⟨by rfl, ?_⟩) hHeld ?_ ?_
  rotate_left
  · rintro w' hh
    have s0 : w'.cell? ⟨w.heap.size, 0, none⟩ = some (.int .i64 an) := blk_cell hh.b1 0
    have s1 : w'.cell? ⟨w.heap.size, 1, none⟩ = some (.int .i64 ad) := blk_cell hh.b1 1
    have s2 : w'.cell? ⟨w.heap.size + 1, 0, none⟩ = some (.int .i64 bn) := blk_cell hh.b2 0
    have s3 : w'.cell? ⟨w.heap.size + 1, 1, none⟩ = some (.int .i64 bd) := blk_cell hh.b2 1
    go_simp
    with_reducible rfl
  rotate_left
  · simp only [Act.put, List.setIfInBounds_toArray, List.set_cons_zero, List.set_cons_succ, i64_w, i32_w]
    rfl
  refine pure_ (i := 2) (N := some 33) (v := ?_) (a' := ?_) #[true, true, true, false, false, false, false, false, false, false, false, false, false, false] rfl rfl (by kernel_rfl) (fun _ _ _ h => h) (Or.inl ⟨by rfl, ?_⟩) ?_ ?_
  rotate_left
  · intro w'
    go_simp
    try with_reducible rfl
  rotate_left
  · simp only [Act.put, List.setIfInBounds_toArray, List.set_cons_zero, List.set_cons_succ, i64_w, i32_w]
    rfl
  refine pure_ (i := 3) (N := some 34) (v := ?_) (a' := ?_) #[true, true, true, true, false, false, false, false, false, false, false, false, false, false] rfl rfl (by kernel_rfl) (fun _ _ _ h => h) (Or.inl ⟨by rfl, ?_⟩) ?_ ?_
  rotate_left
  · intro w'
    go_simp
    try with_reducible rfl
  rotate_left
  · simp only [Act.put, List.setIfInBounds_toArray, List.set_cons_zero, List.set_cons_succ, i64_w, i32_w]
    rfl
  refine pure_ (i := 4) (N := some 35) (v := ?_) (a' := ?_) #[true, true, true, true, true, false, false, false, false, false, false, false, false, false] rfl rfl (by kernel_rfl) (fun _ _ _ h => h) (Or.inl ⟨by rfl, ?_⟩) ?_ ?_
  rotate_left
  · intro w'
    go_simp
    try with_reducible rfl
  rotate_left
  · simp only [Act.put, List.setIfInBounds_toArray, List.set_cons_zero, List.set_cons_succ, i64_w, i32_w]
    rfl
  refine take_ (i := 5) (N := some 36) (v := ?_) (a' := ?_) #[true, true, true, true, true, true, false, false, false, false, false, false, false, false] rfl rfl (by kernel_rfl) (fun _ _ _ h => h) (Or.inl ⟨by rfl, ?_⟩) hHeld ?_ ?_
  rotate_left
  · rintro w' hh
    have s0 : w'.cell? ⟨w.heap.size, 0, none⟩ = some (.int .i64 an) := blk_cell hh.b1 0
    have s1 : w'.cell? ⟨w.heap.size, 1, none⟩ = some (.int .i64 ad) := blk_cell hh.b1 1
    have s2 : w'.cell? ⟨w.heap.size + 1, 0, none⟩ = some (.int .i64 bn) := blk_cell hh.b2 0
    have s3 : w'.cell? ⟨w.heap.size + 1, 1, none⟩ = some (.int .i64 bd) := blk_cell hh.b2 1
    go_simp
    with_reducible rfl
  rotate_left
  · simp only [Act.put, List.setIfInBounds_toArray, List.set_cons_zero, List.set_cons_succ, i64_w, i32_w]
    rfl
  refine pure_ (i := 6) (N := some 37) (v := ?_) (a' := ?_) #[true, true, true, true, true, true, true, false, false, false, false, false, false, false] rfl rfl (by kernel_rfl) (fun _ _ _ h => h) (Or.inl ⟨by rfl, ?_⟩) ?_ ?_
  rotate_left
  · intro w'
    go_simp
    try with_reducible rfl
  rotate_left
  · simp only [Act.put, List.setIfInBounds_toArray, List.set_cons_zero, List.set_cons_succ, i64_w, i32_w]
    rfl
  refine pure_ (i := 7) (N := some 38) (v := ?_) (a' := ?_) #[true, true, true, true, true, true, true, true, false, false, false, false, false, false] rfl rfl (by kernel_rfl) (fun _ _ _ h => h) (Or.inl ⟨by rfl, ?_⟩) ?_ ?_
  rotate_left
  · intro w'
    go_simp
    try with_reducible rfl
  rotate_left
  · simp only [Act.put, List.setIfInBounds_toArray, List.set_cons_zero, List.set_cons_succ, i64_w, i32_w]
    rfl
  refine one_ (i := 8) (N := some 39) #[true, true, true, true, true, true, true, true, true, false, false, false, false, false] rfl rfl (by kernel_rfl) (by decide) (fun K hK => ?_)
  refine goes_ Try.func80 (by kernel_rfl) rfl #[.int .i64 (wrap64 (an.tdiv g)), .int .i64 (wrap64 (bn.tdiv h))] (by rfl) rfl rfl (by (try simp only [List.map_toArray, List.map_cons, List.map_nil]); first | done | rfl) ?_
  refine (M1.out _).mono ?_
  rintro e wz ⟨rfl, hb_⟩
  refine ⟨_, rfl, ?_⟩
  refine hK.out _ _ (hHeld.step hb_) (fun hHeld => ?_)
  clear hK K
  refine norm_ (a' := ?_) ?_ ?_
  rotate_left
  · show Act.put _ (some 39) _ = _
    simp only [Act.put, List.setIfInBounds_toArray, List.set_cons_zero, List.set_cons_succ, i64_w, i32_w]
    rfl
  refine pure_ (i := 9) (N := some 30) (v := ?_) (a' := ?_) #[true, true, true, true, true, true, true, true, true, true, false, false, false, false] rfl rfl (by kernel_rfl) (fun _ _ _ h => h) (Or.inl ⟨by rfl, ?_⟩) ?_ ?_
  rotate_left
  · intro w'
    go_simp
    try with_reducible rfl
  rotate_left
  · simp only [Act.put, List.setIfInBounds_toArray, List.set_cons_zero, List.set_cons_succ, i64_w, i32_w]
    rfl
  refine pure_ (i := 10) (N := some 40) (v := ?_) (a' := ?_) #[true, true, true, true, true, true, true, true, true, true, true, false, false, false] rfl rfl (by kernel_rfl) (fun _ _ _ h => h) (Or.inl ⟨by rfl, ?_⟩) ?_ ?_
  rotate_left
  · intro w'
    go_simp
    try with_reducible rfl
  rotate_left
  · simp only [Act.put, List.setIfInBounds_toArray, List.set_cons_zero, List.set_cons_succ, i64_w, i32_w]
    rfl
  refine pure_ (i := 11) (N := some 41) (v := ?_) (a' := ?_) #[true, true, true, true, true, true, true, true, true, true, true, true, false, false] rfl rfl (by kernel_rfl) (fun _ _ _ h => h) (Or.inl ⟨by rfl, ?_⟩) ?_ ?_
  rotate_left
  · intro w'
    go_simp
    try with_reducible rfl
  rotate_left
  · simp only [Act.put, List.setIfInBounds_toArray, List.set_cons_zero, List.set_cons_succ, i64_w, i32_w]
    rfl
  refine pure_ (i := 12) (N := some 8) (v := ?_) (a' := ?_) #[true, true, true, true, true, true, true, true, true, true, true, true, true, false] rfl rfl (by kernel_rfl) (fun _ _ _ h => h) (Or.inl ⟨by rfl, ?_⟩) ?_ ?_
  rotate_left
  · intro w'
    go_simp
    try with_reducible rfl
  rotate_left
  · simp only [Act.put, List.setIfInBounds_toArray, List.set_cons_zero, List.set_cons_succ, i64_w, i32_w]
    rfl
  refine pure_ (i := 13) (N := some 9) (v := ?_) (a' := ?_) #[true, true, true, true, true, true, true, true, true, true, true, true, true, true] rfl rfl (by kernel_rfl) (fun _ _ _ h => h) (Or.inl ⟨by rfl, ?_⟩) ?_ ?_
  rotate_left
  · intro w'
    go_simp
    try with_reducible rfl
  rotate_left
  · simp only [Act.put, List.setIfInBounds_toArray, List.set_cons_zero, List.set_cons_succ, i64_w, i32_w]
    rfl
  refine done_ (by kernel_rfl) ?_
  clear hB
  have hB := hHeld
  clear hHeld
  go_wp2_with fail
  refine start_ (n := 14) (S := fun wx => B3 w wx (.cells #[.int .i64 an, .int .i64 ad] 23) (.cells #[.int .i64 bn, .int .i64 bd] 23) (.cells #[.int .i64 0, .int .i64 0] 23)) (ds := []) #[false, false, false, false, false, false, false, false, false, false, false, false, false, false] (by kernel_rfl) rfl rfl (hB.step (below_drew (Below.refl _ _))) (fun hHeld => ?_)
  refine pure_ (i := 0) (N := some 43) (v := ?_) (a' := ?_) #[true, false, false, false, false, false, false, false, false, false, false, false, false, false] rfl rfl (by kernel_rfl) (fun _ _ _ h => h) (Or.inl ⟨by rfl, ?_⟩) ?_ ?_
  rotate_left
  · intro w'
    go_simp
    try with_reducible rfl
  rotate_left
  · simp only [Act.put, List.setIfInBounds_toArray, List.set_cons_zero, List.set_cons_succ, i64_w, i32_w]
    rfl
  refine take_ (i := 1) (N := some 44) (v := ?_) (a' := ?_) #[true, true, false, false, false, false, false, false, false, false, false, false, false, false] rfl rfl (by kernel_rfl) (fun _ _ _ h => h) (Or.inl ⟨by rfl, ?_⟩) hHeld ?_ ?_
  rotate_left
  · rintro w' hh
    have s0 : w'.cell? ⟨w.heap.size, 0, none⟩ = some (.int .i64 an) := blk_cell hh.b1 0
    have s1 : w'.cell? ⟨w.heap.size, 1, none⟩ = some (.int .i64 ad) := blk_cell hh.b1 1
    have s2 : w'.cell? ⟨w.heap.size + 1, 0, none⟩ = some (.int .i64 bn) := blk_cell hh.b2 0
    have s3 : w'.cell? ⟨w.heap.size + 1, 1, none⟩ = some (.int .i64 bd) := blk_cell hh.b2 1
    go_simp
    with_reducible rfl
  rotate_left
  · simp only [Act.put, List.setIfInBounds_toArray, List.set_cons_zero, List.set_cons_succ, i64_w, i32_w]
    rfl
  refine pure_ (i := 2) (N := some 45) (v := ?_) (a' := ?_) #[true, true, true, false, false, false, false, false, false, false, false, false, false, false] rfl rfl (by kernel_rfl) (fun _ _ _ h => h) (Or.inl ⟨by rfl, ?_⟩) ?_ ?_
  rotate_left
  · intro w'
    go_simp
    try with_reducible rfl
  rotate_left
  · simp only [Act.put, List.setIfInBounds_toArray, List.set_cons_zero, List.set_cons_succ, i64_w, i32_w]
    rfl
  refine pure_ (i := 3) (N := some 46) (v := ?_) (a' := ?_) #[true, true, true, true, false, false, false, false, false, false, false, false, false, false] rfl rfl (by kernel_rfl) (fun _ _ _ h => h) (Or.inl ⟨by rfl, ?_⟩) ?_ ?_
  rotate_left
  · intro w'
    go_simp
    try with_reducible rfl
  rotate_left
  · simp only [Act.put, List.setIfInBounds_toArray, List.set_cons_zero, List.set_cons_succ, i64_w, i32_w]
    rfl
  refine pure_ (i := 4) (N := some 47) (v := ?_) (a' := ?_) #[true, true, true, true, true, false, false, false, false, false, false, false, false, false] rfl rfl (by kernel_rfl) (fun _ _ _ h => h) (Or.inl ⟨by rfl, ?_⟩) ?_ ?_
  rotate_left
  · intro w'
    go_simp
    try with_reducible rfl
  rotate_left
  · simp only [Act.put, List.setIfInBounds_toArray, List.set_cons_zero, List.set_cons_succ, i64_w, i32_w]
    rfl
  refine take_ (i := 5) (N := some 48) (v := ?_) (a' := ?_) #[true, true, true, true, true, true, false, false, false, false, false, false, false, false] rfl rfl (by kernel_rfl) (fun _ _ _ h => h) (Or.inl ⟨by rfl, ?_⟩) hHeld ?_ ?_
  rotate_left
  · rintro w' hh
    have s0 : w'.cell? ⟨w.heap.size, 0, none⟩ = some (.int .i64 an) := blk_cell hh.b1 0
    have s1 : w'.cell? ⟨w.heap.size, 1, none⟩ = some (.int .i64 ad) := blk_cell hh.b1 1
    have s2 : w'.cell? ⟨w.heap.size + 1, 0, none⟩ = some (.int .i64 bn) := blk_cell hh.b2 0
    have s3 : w'.cell? ⟨w.heap.size + 1, 1, none⟩ = some (.int .i64 bd) := blk_cell hh.b2 1
    go_simp
    with_reducible rfl
  rotate_left
  · simp only [Act.put, List.setIfInBounds_toArray, List.set_cons_zero, List.set_cons_succ, i64_w, i32_w]
    rfl
  refine pure_ (i := 6) (N := some 49) (v := ?_) (a' := ?_) #[true, true, true, true, true, true, true, false, false, false, false, false, false, false] rfl rfl (by kernel_rfl) (fun _ _ _ h => h) (Or.inl ⟨by rfl, ?_⟩) ?_ ?_
  rotate_left
  · intro w'
    go_simp
    try with_reducible rfl
  rotate_left
  · simp only [Act.put, List.setIfInBounds_toArray, List.set_cons_zero, List.set_cons_succ, i64_w, i32_w]
    rfl
  refine pure_ (i := 7) (N := some 50) (v := ?_) (a' := ?_) #[true, true, true, true, true, true, true, true, false, false, false, false, false, false] rfl rfl (by kernel_rfl) (fun _ _ _ h => h) (Or.inl ⟨by rfl, ?_⟩) ?_ ?_
  rotate_left
  · intro w'
    go_simp
    try with_reducible rfl
  rotate_left
  · simp only [Act.put, List.setIfInBounds_toArray, List.set_cons_zero, List.set_cons_succ, i64_w, i32_w]
    rfl
  refine one_ (i := 8) (N := some 51) #[true, true, true, true, true, true, true, true, true, false, false, false, false, false] rfl rfl (by kernel_rfl) (by decide) (fun K hK => ?_)
  refine goes_ Try.func80 (by kernel_rfl) rfl #[.int .i64 (wrap64 (bd.tdiv g)), .int .i64 (wrap64 (ad.tdiv h))] (by rfl) rfl rfl (by (try simp only [List.map_toArray, List.map_cons, List.map_nil]); first | done | rfl) ?_
  refine (M2.out _).mono ?_
  rintro e wz ⟨rfl, hb_⟩
  refine ⟨_, rfl, ?_⟩
  refine hK.out _ _ (hHeld.step hb_) (fun hHeld => ?_)
  clear hK K
  refine norm_ (a' := ?_) ?_ ?_
  rotate_left
  · show Act.put _ (some 51) _ = _
    simp only [Act.put, List.setIfInBounds_toArray, List.set_cons_zero, List.set_cons_succ, i64_w, i32_w]
    rfl
  refine pure_ (i := 9) (N := some 42) (v := ?_) (a' := ?_) #[true, true, true, true, true, true, true, true, true, true, false, false, false, false] rfl rfl (by kernel_rfl) (fun _ _ _ h => h) (Or.inl ⟨by rfl, ?_⟩) ?_ ?_
  rotate_left
  · intro w'
    go_simp
    try with_reducible rfl
  rotate_left
  · simp only [Act.put, List.setIfInBounds_toArray, List.set_cons_zero, List.set_cons_succ, i64_w, i32_w]
    rfl
  refine pure_ (i := 10) (N := some 52) (v := ?_) (a' := ?_) #[true, true, true, true, true, true, true, true, true, true, true, false, false, false] rfl rfl (by kernel_rfl) (fun _ _ _ h => h) (Or.inl ⟨by rfl, ?_⟩) ?_ ?_
  rotate_left
  · intro w'
    go_simp
    try with_reducible rfl
  rotate_left
  · simp only [Act.put, List.setIfInBounds_toArray, List.set_cons_zero, List.set_cons_succ, i64_w, i32_w]
    rfl
  refine pure_ (i := 11) (N := some 53) (v := ?_) (a' := ?_) #[true, true, true, true, true, true, true, true, true, true, true, true, false, false] rfl rfl (by kernel_rfl) (fun _ _ _ h => h) (Or.inl ⟨by rfl, ?_⟩) ?_ ?_
  rotate_left
  · intro w'
    go_simp
    try with_reducible rfl
  rotate_left
  · simp only [Act.put, List.setIfInBounds_toArray, List.set_cons_zero, List.set_cons_succ, i64_w, i32_w]
    rfl
  refine pure_ (i := 12) (N := some 10) (v := ?_) (a' := ?_) #[true, true, true, true, true, true, true, true, true, true, true, true, true, false] rfl rfl (by kernel_rfl) (fun _ _ _ h => h) (Or.inl ⟨by rfl, ?_⟩) ?_ ?_
  rotate_left
  · intro w'
    go_simp
    try with_reducible rfl
  rotate_left
  · simp only [Act.put, List.setIfInBounds_toArray, List.set_cons_zero, List.set_cons_succ, i64_w, i32_w]
    rfl
  refine pure_ (i := 13) (N := some 11) (v := ?_) (a' := ?_) #[true, true, true, true, true, true, true, true, true, true, true, true, true, true] rfl rfl (by kernel_rfl) (fun _ _ _ h => h) (Or.inl ⟨by rfl, ?_⟩) ?_ ?_
  rotate_left
  · intro w'
    go_simp
    try with_reducible rfl
  rotate_left
  · simp only [Act.put, List.setIfInBounds_toArray, List.set_cons_zero, List.set_cons_succ, i64_w, i32_w]
    rfl
  refine done_ (by kernel_rfl) ?_
  clear hB
  have hB := hHeld
  clear hHeld
  cases o1 with
  | false =>
    have hx_ := hB.b3
    have d_0 : wz.cell? ⟨w.heap.size + 1 + 1, 0, none⟩ = some (.int .i64 0) := blk_cell hx_ 0
    have df_0 : wz.frozen? ⟨w.heap.size + 1 + 1, 0, none⟩ = false := blk_frozen hx_ 0
    have d_1 : wz.cell? ⟨w.heap.size + 1 + 1, 1, none⟩ = some (.int .i64 0) := blk_cell hx_ 1
    have df_1 : wz.frozen? ⟨w.heap.size + 1 + 1, 1, none⟩ = false := blk_frozen hx_ 1
    go_wp2_with fail
    have k_ := (blk_set (blk_set hx_ 0 (.int .i64 0)) 1 (.int .i64 0))
    have hB_ := (Below.setCell (Below.setCell hB.be (p := ⟨w.heap.size + 1 + 1, 0, none⟩) ((by show w.heap.size ≤ w.heap.size + 1 + 1; omega)) (.int .i64 0)) (p := ⟨w.heap.size + 1 + 1, 1, none⟩) ((by show w.heap.size ≤ w.heap.size + 1 + 1; omega)) (.int .i64 0))
    obtain ⟨w_, hw_⟩ : ∃ w_, w_ = (World.setCell (World.setCell wz ⟨w.heap.size + 1 + 1, 0, none⟩ (.int .i64 0)) ⟨w.heap.size + 1 + 1, 1, none⟩ (.int .i64 0)) := ⟨_, rfl⟩
    rw [← hw_] at k_ hB_
    try rw [← hw_]
    clear hw_
    have s_0 : w_.cell? ⟨w.heap.size + 1 + 1, 0, none⟩ = some (.int .i64 0) := blk_cell k_ 0
    have s_1 : w_.cell? ⟨w.heap.size + 1 + 1, 1, none⟩ = some (.int .i64 0) := blk_cell k_ 1
    refine bodyPost_ret (by simp [results, Try.results59, go_sem, s_0, s_1]; try rfl) rfl ?_
    rw [K2.out (by trivial)]
    exact ⟨rfl, hB_⟩
  | true =>
    cases o2 with
    | false =>
      have hx_ := hB.b3
      have d_0 : wz.cell? ⟨w.heap.size + 1 + 1, 0, none⟩ = some (.int .i64 0) := blk_cell hx_ 0
      have df_0 : wz.frozen? ⟨w.heap.size + 1 + 1, 0, none⟩ = false := blk_frozen hx_ 0
      have d_1 : wz.cell? ⟨w.heap.size + 1 + 1, 1, none⟩ = some (.int .i64 0) := blk_cell hx_ 1
      have df_1 : wz.frozen? ⟨w.heap.size + 1 + 1, 1, none⟩ = false := blk_frozen hx_ 1
      go_wp2_with fail
      have k_ := (blk_set (blk_set hx_ 0 (.int .i64 0)) 1 (.int .i64 0))
      have hB_ := (Below.setCell (Below.setCell hB.be (p := ⟨w.heap.size + 1 + 1, 0, none⟩) ((by show w.heap.size ≤ w.heap.size + 1 + 1; omega)) (.int .i64 0)) (p := ⟨w.heap.size + 1 + 1, 1, none⟩) ((by show w.heap.size ≤ w.heap.size + 1 + 1; omega)) (.int .i64 0))
      obtain ⟨w_, hw_⟩ : ∃ w_, w_ = (World.setCell (World.setCell wz ⟨w.heap.size + 1 + 1, 0, none⟩ (.int .i64 0)) ⟨w.heap.size + 1 + 1, 1, none⟩ (.int .i64 0)) := ⟨_, rfl⟩
      rw [← hw_] at k_ hB_
      try rw [← hw_]
      clear hw_
      have s_0 : w_.cell? ⟨w.heap.size + 1 + 1, 0, none⟩ = some (.int .i64 0) := blk_cell k_ 0
      have s_1 : w_.cell? ⟨w.heap.size + 1 + 1, 1, none⟩ = some (.int .i64 0) := blk_cell k_ 1
      refine bodyPost_ret (by simp [results, Try.results59, go_sem, s_0, s_1]; try rfl) rfl ?_
      rw [K3.out (by trivial)]
      exact ⟨rfl, hB_⟩
    | true =>
      obtain ⟨kn, kd, kp, km⟩ := K1.out (by trivial) (by trivial)
      go_wp2_with fail
      refine (refmake_calls kn kd kp _).mono ?_
      rintro e w5 ⟨rfl, hb5⟩
      replace hB := hB.step hb5
      clear hb5
      have hw5 := hB.size
      obtain ⟨x, hx⟩ : ∃ x, (low n d).1 = x := ⟨_, rfl⟩
      obtain ⟨y, hy⟩ : ∃ x, (low n d).2 = x := ⟨_, rfl⟩
      have KM := Lib.hid km
      have hxy : low n d = (x, y) := by rw [← hx, ← hy]
      have HXY := Lib.hid hxy
      rw [hx, hy]
      clear km hxy hx hy
      replace hB := hB.step (below_alloc (Below.refl _ _) (.cells #[.int .i64 x, .int .i64 y] 23))
      have kx := blk_new w5 (.cells #[.int .i64 x, .int .i64 y] 23)
      have c0 : (w5.alloc (.cells #[.int .i64 x, .int .i64 y] 23)).cell? ⟨w5.heap.size, 0, none⟩ = some (.int .i64 x) := blk_cell kx 0
      have c1 : (w5.alloc (.cells #[.int .i64 x, .int .i64 y] 23)).cell? ⟨w5.heap.size, 1, none⟩ = some (.int .i64 y) := blk_cell kx 1
      have hx_ := hB.b3
      have d_0 : (w5.alloc (.cells #[.int .i64 x, .int .i64 y] 23)).cell? ⟨w.heap.size + 1 + 1, 0, none⟩ = some (.int .i64 0) := blk_cell hx_ 0
      have df_0 : (w5.alloc (.cells #[.int .i64 x, .int .i64 y] 23)).frozen? ⟨w.heap.size + 1 + 1, 0, none⟩ = false := blk_frozen hx_ 0
      have d_1 : (w5.alloc (.cells #[.int .i64 x, .int .i64 y] 23)).cell? ⟨w.heap.size + 1 + 1, 1, none⟩ = some (.int .i64 0) := blk_cell hx_ 1
      have df_1 : (w5.alloc (.cells #[.int .i64 x, .int .i64 y] 23)).frozen? ⟨w.heap.size + 1 + 1, 1, none⟩ = false := blk_frozen hx_ 1
      go_wp2_with fail
      have k_ := (blk_set (blk_set hx_ 0 (.int .i64 x)) 1 (.int .i64 y))
      have hB_ := (Below.setCell (Below.setCell hB.be (p := ⟨w.heap.size + 1 + 1, 0, none⟩) ((by show w.heap.size ≤ w.heap.size + 1 + 1; omega)) (.int .i64 x)) (p := ⟨w.heap.size + 1 + 1, 1, none⟩) ((by show w.heap.size ≤ w.heap.size + 1 + 1; omega)) (.int .i64 y))
      obtain ⟨w_, hw_⟩ : ∃ w_, w_ = (World.setCell (World.setCell (w5.alloc (.cells #[.int .i64 x, .int .i64 y] 23)) ⟨w.heap.size + 1 + 1, 0, none⟩ (.int .i64 x)) ⟨w.heap.size + 1 + 1, 1, none⟩ (.int .i64 y)) := ⟨_, rfl⟩
      rw [← hw_] at k_ hB_
      try rw [← hw_]
      clear hw_
      have s_0 : w_.cell? ⟨w.heap.size + 1 + 1, 0, none⟩ = some (.int .i64 x) := blk_cell k_ 0
      have s_1 : w_.cell? ⟨w.heap.size + 1 + 1, 1, none⟩ = some (.int .i64 y) := blk_cell k_ 1
      refine bodyPost_ret (by simp [results, Try.results59, go_sem, s_0, s_1]; try rfl) rfl ?_
      rw [KM.out, HXY.out]
      exact ⟨rfl, hB_⟩

set_option maxRecDepth 100000 in
set_option maxHeartbeats 4000000 in
theorem refadd_calls {an ad bn bd : Int} (h1 : I64 an) (h2 : I64 ad) (h3 : I64 bn) (h4 : I64 bd) (ra : Rt an ad) (rb : Rt bn bd) (w : World) :
    Calls Try.prog 58 #[.agg #[.int .i64 an, .int .i64 ad], .agg #[.int .i64 bn, .int .i64 bd]] w fun e w' => e = ansB (toldB (addR an ad bn bd)) ∧ Below w.heap.size w w' := by
  have hg := gcd_pos (a := ad) rb.1
  have lg := gcd_le (a := ad) h4 rb.1
  have i1 := h2.tdiv hg
  have i2 := h4.tdiv hg
  obtain ⟨x, ox, ex, fx, gx⟩ := watch (an * bd.tdiv (Int.gcd ad bd : Nat))
  obtain ⟨y, oy, ey, fy, gy⟩ := watch (bn * ad.tdiv (Int.gcd ad bd : Nat))
  have j1 : I64 x := by have := watched_I64 (an * bd.tdiv (Int.gcd ad bd : Nat)); rwa [ex] at this
  have j2 : I64 y := by have := watched_I64 (bn * ad.tdiv (Int.gcd ad bd : Nat)); rwa [ey] at this
  obtain ⟨n, os, en, fn, gn⟩ := watch (x + y)
  obtain ⟨d, od, ed, fd, gd⟩ := watch (ad * bd.tdiv (Int.gcd ad bd : Nat))
  have hpos : 0 < ad * bd.tdiv (Int.gcd ad bd : Nat) := Int.mul_pos ra.1 (exact_pos rb.1 (dvd_right _ _) (gcd_pos rb.1))
  have m1 := fun w => mul_calls01 h1 i2 ex w
  have m2 := fun w => mul_calls01 h3 i1 ey w
  have m3 := fun w => add_calls01 j1 j2 en w
  have m4 := fun w => mul_calls01 h2 i2 ed w
  have w1 := wrap_in i1
  have w2 := wrap_in i2
  rw [← w2] at m1 m4
  rw [← w1] at m2
  have s1 := fun w => size_calls h2 w
  have s2 := fun w => size_calls h4 w
  have s3 := fun w => gcd_calls (a := ad) h4 w
  have hM : addR an ad bn bd = if I64 (an * bd.tdiv (Int.gcd ad bd : Nat)) ∧ I64 (bn * ad.tdiv (Int.gcd ad bd : Nat)) ∧ I64 (an * bd.tdiv (Int.gcd ad bd : Nat) + bn * ad.tdiv (Int.gcd ad bd : Nat)) ∧ I64 (ad * bd.tdiv (Int.gcd ad bd : Nat)) then some (low (an * bd.tdiv (Int.gcd ad bd : Nat) + bn * ad.tdiv (Int.gcd ad bd : Nat)) (ad * bd.tdiv (Int.gcd ad bd : Nat))) else none := rfl
  have k1 : ox = true → oy = true → os = true → od = true → I64 n ∧ I64 d ∧ 0 < d ∧ addR an ad bn bd = some (low n d) := by
    intro c1 c2 c3 c4
    have a1 := fx c1
    have a2 := fy c2
    have a3 := fn c3
    have a4 := fd c4
    refine ⟨a3.2 ▸ a3.1, a4.2 ▸ a4.1, a4.2 ▸ hpos, ?_⟩
    have b3 := a3.1
    rw [a1.2, a2.2] at b3
    rw [hM, if_pos ⟨a1.1, a2.1, b3, a4.1⟩, a3.2, a4.2, a1.2, a2.2]
  have k2 : ox = false → addR an ad bn bd = none := fun c => by rw [hM, if_neg (fun h => gx c h.1)]
  have k3 : oy = false → addR an ad bn bd = none := fun c => by rw [hM, if_neg (fun h => gy c h.2.1)]
  have k4 : ox = true → oy = true → os = false → addR an ad bn bd = none := fun c1 c2 c => by
    have a1 := fx c1
    have a2 := fy c2
    have b3 := gn c
    rw [a1.2, a2.2] at b3
    rw [hM, if_neg (fun h => b3 h.2.2.1)]
  have k5 : od = false → addR an ad bn bd = none := fun c => by rw [hM, if_neg (fun h => gd c h.2.2.2)]
  clear hM fx fy fn fd gx gy gn gd ex ey en ed hpos w1 w2 i1 i2
  obtain ⟨M, hMM⟩ : ∃ M, addR an ad bn bd = M := ⟨_, rfl⟩
  rw [hMM] at k1 k2 k3 k4 k5 ⊢
  clear hMM
  obtain ⟨q1, h_1⟩ : ∃ m, (ad.natAbs : Int) = m := ⟨_, rfl⟩
  obtain ⟨q2, h_2⟩ : ∃ m, (bd.natAbs : Int) = m := ⟨_, rfl⟩
  obtain ⟨g, h_5⟩ : ∃ m, ((Int.gcd ad bd : Nat) : Int) = m := ⟨_, rfl⟩
  simp only [h_1, h_2, h_5] at s1 s2 s3
  simp only [h_5] at m1 m2 m4
  have gz : ¬ g = 0 := by omega
  have gz2 : (g == 0) = false := by simp [gz]
  have eg : wrap64 g = g := wrap_in (by unfold I64; omega)
  clear h_1 h_2 h_5 hg lg
  have S1 := Lib.hid s1
  have S2 := Lib.hid s2
  have S3 := Lib.hid s3
  have M1 := Lib.hid m1
  have M2 := Lib.hid m2
  have M3 := Lib.hid m3
  have M4 := Lib.hid m4
  have K1 := Lib.hid k1
  have K2 := Lib.hid k2
  have K3 := Lib.hid k3
  have K4 := Lib.hid k4
  have K5 := Lib.hid k5
  have EG := Lib.hid eg
  clear s1 s2 s3 m1 m2 m3 m4 k1 k2 k3 k4 k5 eg
  have hB := b3_start w (.cells #[.int .i64 an, .int .i64 ad] 23) (.cells #[.int .i64 bn, .int .i64 bd] 23) (.cells #[.int .i64 0, .int .i64 0] 23)
  go_enter Try.func58, Try.ntmps58
  go_wp2_with fail
  refine start_ (n := 9) (S := fun wx => B3 w wx (.cells #[.int .i64 an, .int .i64 ad] 23) (.cells #[.int .i64 bn, .int .i64 bd] 23) (.cells #[.int .i64 0, .int .i64 0] 23)) (ds := []) #[false, false, false, false, false, false, false, false, false] (by kernel_rfl) rfl rfl (hB.step (below_drew (Below.refl _ _))) (fun hHeld => ?_)
  refine pure_ (i := 0) (N := some 17) (v := ?_) (a' := ?_) #[true, false, false, false, false, false, false, false, false] rfl rfl (by kernel_rfl) (fun _ _ _ h => h) (Or.inl ⟨by rfl, ?_⟩) ?_ ?_
  rotate_left
  · intro w'
    go_simp
    try with_reducible rfl
  rotate_left
  · simp only [Act.put, List.setIfInBounds_toArray, List.set_cons_zero, List.set_cons_succ, i64_w, i32_w]
    rfl
  refine take_ (i := 1) (N := some 18) (v := ?_) (a' := ?_) #[true, true, false, false, false, false, false, false, false] rfl rfl (by kernel_rfl) (fun _ _ _ h => h) (Or.inl ⟨by rfl, ?_⟩) hHeld ?_ ?_
  rotate_left
  · rintro w' hh
    have s0 : w'.cell? ⟨w.heap.size, 0, none⟩ = some (.int .i64 an) := blk_cell hh.b1 0
    have s1 : w'.cell? ⟨w.heap.size, 1, none⟩ = some (.int .i64 ad) := blk_cell hh.b1 1
    have s2 : w'.cell? ⟨w.heap.size + 1, 0, none⟩ = some (.int .i64 bn) := blk_cell hh.b2 0
    have s3 : w'.cell? ⟨w.heap.size + 1, 1, none⟩ = some (.int .i64 bd) := blk_cell hh.b2 1
    go_simp
    with_reducible rfl
  rotate_left
  · simp only [Act.put, List.setIfInBounds_toArray, List.set_cons_zero, List.set_cons_succ, i64_w, i32_w]
    rfl
  refine pure_ (i := 3) (N := some 20) (v := ?_) (a' := ?_) #[true, true, false, true, false, false, false, false, false] rfl rfl (by kernel_rfl) (fun _ _ _ h => h) (Or.inl ⟨by rfl, ?_⟩) ?_ ?_
  rotate_left
  · intro w'
    go_simp
    try with_reducible rfl
  rotate_left
  · simp only [Act.put, List.setIfInBounds_toArray, List.set_cons_zero, List.set_cons_succ, i64_w, i32_w]
    rfl
  refine take_ (i := 4) (N := some 21) (v := ?_) (a' := ?_) #[true, true, false, true, true, false, false, false, false] rfl rfl (by kernel_rfl) (fun _ _ _ h => h) (Or.inl ⟨by rfl, ?_⟩) hHeld ?_ ?_
  rotate_left
  · rintro w' hh
    have s0 : w'.cell? ⟨w.heap.size, 0, none⟩ = some (.int .i64 an) := blk_cell hh.b1 0
    have s1 : w'.cell? ⟨w.heap.size, 1, none⟩ = some (.int .i64 ad) := blk_cell hh.b1 1
    have s2 : w'.cell? ⟨w.heap.size + 1, 0, none⟩ = some (.int .i64 bn) := blk_cell hh.b2 0
    have s3 : w'.cell? ⟨w.heap.size + 1, 1, none⟩ = some (.int .i64 bd) := blk_cell hh.b2 1
    go_simp
    with_reducible rfl
  rotate_left
  · simp only [Act.put, List.setIfInBounds_toArray, List.set_cons_zero, List.set_cons_succ, i64_w, i32_w]
    rfl
  refine one_ (i := 2) (N := some 19) #[true, true, true, true, true, false, false, false, false] rfl rfl (by kernel_rfl) (by decide) (fun K hK => ?_)
  refine goes_ Try.func51 (by kernel_rfl) rfl #[.int .i64 ad] (by rfl) rfl rfl (by (try simp only [List.map_toArray, List.map_cons, List.map_nil]); first | done | rfl) ?_
  refine (S1.out _).mono ?_
  rintro e wz ⟨rfl, hb_⟩
  refine ⟨_, rfl, ?_⟩
  refine hK.out _ _ (hHeld.step hb_) (fun hHeld => ?_)
  clear hK K
  refine norm_ (a' := ?_) ?_ ?_
  rotate_left
  · show Act.put _ (some 19) _ = _
    simp only [Act.put, List.setIfInBounds_toArray, List.set_cons_zero, List.set_cons_succ, i64_w, i32_w]
    rfl
  refine one_ (i := 5) (N := some 22) #[true, true, true, true, true, true, false, false, false] rfl rfl (by kernel_rfl) (by decide) (fun K hK => ?_)
  refine goes_ Try.func51 (by kernel_rfl) rfl #[.int .i64 bd] (by rfl) rfl rfl (by (try simp only [List.map_toArray, List.map_cons, List.map_nil]); first | done | rfl) ?_
  refine (S2.out _).mono ?_
  rintro e wz ⟨rfl, hb_⟩
  refine ⟨_, rfl, ?_⟩
  refine hK.out _ _ (hHeld.step hb_) (fun hHeld => ?_)
  clear hK K
  refine norm_ (a' := ?_) ?_ ?_
  rotate_left
  · show Act.put _ (some 22) _ = _
    simp only [Act.put, List.setIfInBounds_toArray, List.set_cons_zero, List.set_cons_succ, i64_w, i32_w]
    rfl
  refine one_ (i := 6) (N := some 23) #[true, true, true, true, true, true, true, false, false] rfl rfl (by kernel_rfl) (by decide) (fun K hK => ?_)
  refine goes_ Try.func50 (by kernel_rfl) rfl #[.int .u64 q1, .int .u64 q2] (by rfl) rfl rfl (by (try simp only [List.map_toArray, List.map_cons, List.map_nil]); first | done | rfl) ?_
  refine (S3.out _).mono ?_
  rintro e wz ⟨rfl, hb_⟩
  refine ⟨_, rfl, ?_⟩
  refine hK.out _ _ (hHeld.step hb_) (fun hHeld => ?_)
  clear hK K
  refine norm_ (a' := ?_) ?_ ?_
  rotate_left
  · show Act.put _ (some 23) _ = _
    simp only [Act.put, List.setIfInBounds_toArray, List.set_cons_zero, List.set_cons_succ, i64_w, i32_w]
    rfl
  refine pure_ (i := 7) (N := some 24) (v := ?_) (a' := ?_) #[true, true, true, true, true, true, true, true, false] rfl rfl (by kernel_rfl) (fun _ _ _ h => h) (Or.inl ⟨by rfl, ?_⟩) ?_ ?_
  rotate_left
  · intro w'
    go_simp
    try with_reducible rfl
  rotate_left
  · simp only [Act.put, List.setIfInBounds_toArray, List.set_cons_zero, List.set_cons_succ, i64_w, i32_w]
    rfl
  refine pure_ (i := 8) (N := some 6) (v := ?_) (a' := ?_) #[true, true, true, true, true, true, true, true, true] rfl rfl (by kernel_rfl) (fun _ _ _ h => h) (Or.inl ⟨by rfl, ?_⟩) ?_ ?_
  rotate_left
  · intro w'
    go_simp
    try with_reducible rfl
  rotate_left
  · simp only [Act.put, List.setIfInBounds_toArray, List.set_cons_zero, List.set_cons_succ, i64_w, i32_w]
    rfl
  refine done_ (by kernel_rfl) ?_
  clear hB
  have hB := hHeld
  clear hHeld
  rw [EG.out]
  go_wp2_with fail
  refine start_ (n := 12) (S := fun wx => B3 w wx (.cells #[.int .i64 an, .int .i64 ad] 23) (.cells #[.int .i64 bn, .int .i64 bd] 23) (.cells #[.int .i64 0, .int .i64 0] 23)) (ds := []) #[false, false, false, false, false, false, false, false, false, false, false, false] (by kernel_rfl) rfl rfl (hB.step (below_drew (Below.refl _ _))) (fun hHeld => ?_)
  refine pure_ (i := 0) (N := some 26) (v := ?_) (a' := ?_) #[true, false, false, false, false, false, false, false, false, false, false, false] rfl rfl (by kernel_rfl) (fun _ _ _ h => h) (Or.inl ⟨by rfl, ?_⟩) ?_ ?_
  rotate_left
  · intro w'
    go_simp
    try with_reducible rfl
  rotate_left
  · simp only [Act.put, List.setIfInBounds_toArray, List.set_cons_zero, List.set_cons_succ, i64_w, i32_w]
    rfl
  refine take_ (i := 1) (N := some 27) (v := ?_) (a' := ?_) #[true, true, false, false, false, false, false, false, false, false, false, false] rfl rfl (by kernel_rfl) (fun _ _ _ h => h) (Or.inl ⟨by rfl, ?_⟩) hHeld ?_ ?_
  rotate_left
  · rintro w' hh
    have s0 : w'.cell? ⟨w.heap.size, 0, none⟩ = some (.int .i64 an) := blk_cell hh.b1 0
    have s1 : w'.cell? ⟨w.heap.size, 1, none⟩ = some (.int .i64 ad) := blk_cell hh.b1 1
    have s2 : w'.cell? ⟨w.heap.size + 1, 0, none⟩ = some (.int .i64 bn) := blk_cell hh.b2 0
    have s3 : w'.cell? ⟨w.heap.size + 1, 1, none⟩ = some (.int .i64 bd) := blk_cell hh.b2 1
    go_simp
    with_reducible rfl
  rotate_left
  · simp only [Act.put, List.setIfInBounds_toArray, List.set_cons_zero, List.set_cons_succ, i64_w, i32_w]
    rfl
  refine pure_ (i := 2) (N := some 28) (v := ?_) (a' := ?_) #[true, true, true, false, false, false, false, false, false, false, false, false] rfl rfl (by kernel_rfl) (fun _ _ _ h => h) (Or.inl ⟨by rfl, ?_⟩) ?_ ?_
  rotate_left
  · intro w'
    go_simp
    try with_reducible rfl
  rotate_left
  · simp only [Act.put, List.setIfInBounds_toArray, List.set_cons_zero, List.set_cons_succ, i64_w, i32_w]
    rfl
  refine take_ (i := 3) (N := some 29) (v := ?_) (a' := ?_) #[true, true, true, true, false, false, false, false, false, false, false, false] rfl rfl (by kernel_rfl) (fun _ _ _ h => h) (Or.inl ⟨by rfl, ?_⟩) hHeld ?_ ?_
  rotate_left
  · rintro w' hh
    have s0 : w'.cell? ⟨w.heap.size, 0, none⟩ = some (.int .i64 an) := blk_cell hh.b1 0
    have s1 : w'.cell? ⟨w.heap.size, 1, none⟩ = some (.int .i64 ad) := blk_cell hh.b1 1
    have s2 : w'.cell? ⟨w.heap.size + 1, 0, none⟩ = some (.int .i64 bn) := blk_cell hh.b2 0
    have s3 : w'.cell? ⟨w.heap.size + 1, 1, none⟩ = some (.int .i64 bd) := blk_cell hh.b2 1
    go_simp
    with_reducible rfl
  rotate_left
  · simp only [Act.put, List.setIfInBounds_toArray, List.set_cons_zero, List.set_cons_succ, i64_w, i32_w]
    rfl
  refine pure_ (i := 4) (N := some 30) (v := ?_) (a' := ?_) #[true, true, true, true, true, false, false, false, false, false, false, false] rfl rfl (by kernel_rfl) (fun _ _ _ h => h) (Or.inl ⟨by rfl, ?_⟩) ?_ ?_
  rotate_left
  · intro w'
    go_simp
    try with_reducible rfl
  rotate_left
  · simp only [Act.put, List.setIfInBounds_toArray, List.set_cons_zero, List.set_cons_succ, i64_w, i32_w]
    rfl
  refine pure_ (i := 5) (N := some 31) (v := ?_) (a' := ?_) #[true, true, true, true, true, true, false, false, false, false, false, false] rfl rfl (by kernel_rfl) (fun _ _ _ h => h) (Or.inl ⟨by rfl, ?_⟩) ?_ ?_
  rotate_left
  · intro w'
    go_simp
    try with_reducible rfl
  rotate_left
  · simp only [Act.put, List.setIfInBounds_toArray, List.set_cons_zero, List.set_cons_succ, i64_w, i32_w]
    rfl
  refine one_ (i := 6) (N := some 32) #[true, true, true, true, true, true, true, false, false, false, false, false] rfl rfl (by kernel_rfl) (by decide) (fun K hK => ?_)
  refine goes_ Try.func80 (by kernel_rfl) rfl #[.int .i64 an, .int .i64 (wrap64 (bd.tdiv g))] (by rfl) rfl rfl (by (try simp only [List.map_toArray, List.map_cons, List.map_nil]); first | done | rfl) ?_
  refine (M1.out _).mono ?_
  rintro e wz ⟨rfl, hb_⟩
  refine ⟨_, rfl, ?_⟩
  refine hK.out _ _ (hHeld.step hb_) (fun hHeld => ?_)
  clear hK K
  refine norm_ (a' := ?_) ?_ ?_
  rotate_left
  · show Act.put _ (some 32) _ = _
    simp only [Act.put, List.setIfInBounds_toArray, List.set_cons_zero, List.set_cons_succ, i64_w, i32_w]
    rfl
  refine pure_ (i := 7) (N := some 25) (v := ?_) (a' := ?_) #[true, true, true, true, true, true, true, true, false, false, false, false] rfl rfl (by kernel_rfl) (fun _ _ _ h => h) (Or.inl ⟨by rfl, ?_⟩) ?_ ?_
  rotate_left
  · intro w'
    go_simp
    try with_reducible rfl
  rotate_left
  · simp only [Act.put, List.setIfInBounds_toArray, List.set_cons_zero, List.set_cons_succ, i64_w, i32_w]
    rfl
  refine pure_ (i := 8) (N := some 33) (v := ?_) (a' := ?_) #[true, true, true, true, true, true, true, true, true, false, false, false] rfl rfl (by kernel_rfl) (fun _ _ _ h => h) (Or.inl ⟨by rfl, ?_⟩) ?_ ?_
  rotate_left
  · intro w'
    go_simp
    try with_reducible rfl
  rotate_left
  · simp only [Act.put, List.setIfInBounds_toArray, List.set_cons_zero, List.set_cons_succ, i64_w, i32_w]
    rfl
  refine pure_ (i := 9) (N := some 34) (v := ?_) (a' := ?_) #[true, true, true, true, true, true, true, true, true, true, false, false] rfl rfl (by kernel_rfl) (fun _ _ _ h => h) (Or.inl ⟨by rfl, ?_⟩) ?_ ?_
  rotate_left
  · intro w'
    go_simp
    try with_reducible rfl
  rotate_left
  · simp only [Act.put, List.setIfInBounds_toArray, List.set_cons_zero, List.set_cons_succ, i64_w, i32_w]
    rfl
  refine pure_ (i := 10) (N := some 7) (v := ?_) (a' := ?_) #[true, true, true, true, true, true, true, true, true, true, true, false] rfl rfl (by kernel_rfl) (fun _ _ _ h => h) (Or.inl ⟨by rfl, ?_⟩) ?_ ?_
  rotate_left
  · intro w'
    go_simp
    try with_reducible rfl
  rotate_left
  · simp only [Act.put, List.setIfInBounds_toArray, List.set_cons_zero, List.set_cons_succ, i64_w, i32_w]
    rfl
  refine pure_ (i := 11) (N := some 8) (v := ?_) (a' := ?_) #[true, true, true, true, true, true, true, true, true, true, true, true] rfl rfl (by kernel_rfl) (fun _ _ _ h => h) (Or.inl ⟨by rfl, ?_⟩) ?_ ?_
  rotate_left
  · intro w'
    go_simp
    try with_reducible rfl
  rotate_left
  · simp only [Act.put, List.setIfInBounds_toArray, List.set_cons_zero, List.set_cons_succ, i64_w, i32_w]
    rfl
  refine done_ (by kernel_rfl) ?_
  clear hB
  have hB := hHeld
  clear hHeld
  go_wp2_with fail
  refine start_ (n := 12) (S := fun wx => B3 w wx (.cells #[.int .i64 an, .int .i64 ad] 23) (.cells #[.int .i64 bn, .int .i64 bd] 23) (.cells #[.int .i64 0, .int .i64 0] 23)) (ds := []) #[false, false, false, false, false, false, false, false, false, false, false, false] (by kernel_rfl) rfl rfl (hB.step (below_drew (Below.refl _ _))) (fun hHeld => ?_)
  refine pure_ (i := 0) (N := some 36) (v := ?_) (a' := ?_) #[true, false, false, false, false, false, false, false, false, false, false, false] rfl rfl (by kernel_rfl) (fun _ _ _ h => h) (Or.inl ⟨by rfl, ?_⟩) ?_ ?_
  rotate_left
  · intro w'
    go_simp
    try with_reducible rfl
  rotate_left
  · simp only [Act.put, List.setIfInBounds_toArray, List.set_cons_zero, List.set_cons_succ, i64_w, i32_w]
    rfl
  refine take_ (i := 1) (N := some 37) (v := ?_) (a' := ?_) #[true, true, false, false, false, false, false, false, false, false, false, false] rfl rfl (by kernel_rfl) (fun _ _ _ h => h) (Or.inl ⟨by rfl, ?_⟩) hHeld ?_ ?_
  rotate_left
  · rintro w' hh
    have s0 : w'.cell? ⟨w.heap.size, 0, none⟩ = some (.int .i64 an) := blk_cell hh.b1 0
    have s1 : w'.cell? ⟨w.heap.size, 1, none⟩ = some (.int .i64 ad) := blk_cell hh.b1 1
    have s2 : w'.cell? ⟨w.heap.size + 1, 0, none⟩ = some (.int .i64 bn) := blk_cell hh.b2 0
    have s3 : w'.cell? ⟨w.heap.size + 1, 1, none⟩ = some (.int .i64 bd) := blk_cell hh.b2 1
    go_simp
    with_reducible rfl
  rotate_left
  · simp only [Act.put, List.setIfInBounds_toArray, List.set_cons_zero, List.set_cons_succ, i64_w, i32_w]
    rfl
  refine pure_ (i := 2) (N := some 38) (v := ?_) (a' := ?_) #[true, true, true, false, false, false, false, false, false, false, false, false] rfl rfl (by kernel_rfl) (fun _ _ _ h => h) (Or.inl ⟨by rfl, ?_⟩) ?_ ?_
  rotate_left
  · intro w'
    go_simp
    try with_reducible rfl
  rotate_left
  · simp only [Act.put, List.setIfInBounds_toArray, List.set_cons_zero, List.set_cons_succ, i64_w, i32_w]
    rfl
  refine take_ (i := 3) (N := some 39) (v := ?_) (a' := ?_) #[true, true, true, true, false, false, false, false, false, false, false, false] rfl rfl (by kernel_rfl) (fun _ _ _ h => h) (Or.inl ⟨by rfl, ?_⟩) hHeld ?_ ?_
  rotate_left
  · rintro w' hh
    have s0 : w'.cell? ⟨w.heap.size, 0, none⟩ = some (.int .i64 an) := blk_cell hh.b1 0
    have s1 : w'.cell? ⟨w.heap.size, 1, none⟩ = some (.int .i64 ad) := blk_cell hh.b1 1
    have s2 : w'.cell? ⟨w.heap.size + 1, 0, none⟩ = some (.int .i64 bn) := blk_cell hh.b2 0
    have s3 : w'.cell? ⟨w.heap.size + 1, 1, none⟩ = some (.int .i64 bd) := blk_cell hh.b2 1
    go_simp
    with_reducible rfl
  rotate_left
  · simp only [Act.put, List.setIfInBounds_toArray, List.set_cons_zero, List.set_cons_succ, i64_w, i32_w]
    rfl
  refine pure_ (i := 4) (N := some 40) (v := ?_) (a' := ?_) #[true, true, true, true, true, false, false, false, false, false, false, false] rfl rfl (by kernel_rfl) (fun _ _ _ h => h) (Or.inl ⟨by rfl, ?_⟩) ?_ ?_
  rotate_left
  · intro w'
    go_simp
    try with_reducible rfl
  rotate_left
  · simp only [Act.put, List.setIfInBounds_toArray, List.set_cons_zero, List.set_cons_succ, i64_w, i32_w]
    rfl
  refine pure_ (i := 5) (N := some 41) (v := ?_) (a' := ?_) #[true, true, true, true, true, true, false, false, false, false, false, false] rfl rfl (by kernel_rfl) (fun _ _ _ h => h) (Or.inl ⟨by rfl, ?_⟩) ?_ ?_
  rotate_left
  · intro w'
    go_simp
    try with_reducible rfl
  rotate_left
  · simp only [Act.put, List.setIfInBounds_toArray, List.set_cons_zero, List.set_cons_succ, i64_w, i32_w]
    rfl
  refine one_ (i := 6) (N := some 42) #[true, true, true, true, true, true, true, false, false, false, false, false] rfl rfl (by kernel_rfl) (by decide) (fun K hK => ?_)
  refine goes_ Try.func80 (by kernel_rfl) rfl #[.int .i64 bn, .int .i64 (wrap64 (ad.tdiv g))] (by rfl) rfl rfl (by (try simp only [List.map_toArray, List.map_cons, List.map_nil]); first | done | rfl) ?_
  refine (M2.out _).mono ?_
  rintro e wz ⟨rfl, hb_⟩
  refine ⟨_, rfl, ?_⟩
  refine hK.out _ _ (hHeld.step hb_) (fun hHeld => ?_)
  clear hK K
  refine norm_ (a' := ?_) ?_ ?_
  rotate_left
  · show Act.put _ (some 42) _ = _
    simp only [Act.put, List.setIfInBounds_toArray, List.set_cons_zero, List.set_cons_succ, i64_w, i32_w]
    rfl
  refine pure_ (i := 7) (N := some 35) (v := ?_) (a' := ?_) #[true, true, true, true, true, true, true, true, false, false, false, false] rfl rfl (by kernel_rfl) (fun _ _ _ h => h) (Or.inl ⟨by rfl, ?_⟩) ?_ ?_
  rotate_left
  · intro w'
    go_simp
    try with_reducible rfl
  rotate_left
  · simp only [Act.put, List.setIfInBounds_toArray, List.set_cons_zero, List.set_cons_succ, i64_w, i32_w]
    rfl
  refine pure_ (i := 8) (N := some 43) (v := ?_) (a' := ?_) #[true, true, true, true, true, true, true, true, true, false, false, false] rfl rfl (by kernel_rfl) (fun _ _ _ h => h) (Or.inl ⟨by rfl, ?_⟩) ?_ ?_
  rotate_left
  · intro w'
    go_simp
    try with_reducible rfl
  rotate_left
  · simp only [Act.put, List.setIfInBounds_toArray, List.set_cons_zero, List.set_cons_succ, i64_w, i32_w]
    rfl
  refine pure_ (i := 9) (N := some 44) (v := ?_) (a' := ?_) #[true, true, true, true, true, true, true, true, true, true, false, false] rfl rfl (by kernel_rfl) (fun _ _ _ h => h) (Or.inl ⟨by rfl, ?_⟩) ?_ ?_
  rotate_left
  · intro w'
    go_simp
    try with_reducible rfl
  rotate_left
  · simp only [Act.put, List.setIfInBounds_toArray, List.set_cons_zero, List.set_cons_succ, i64_w, i32_w]
    rfl
  refine pure_ (i := 10) (N := some 9) (v := ?_) (a' := ?_) #[true, true, true, true, true, true, true, true, true, true, true, false] rfl rfl (by kernel_rfl) (fun _ _ _ h => h) (Or.inl ⟨by rfl, ?_⟩) ?_ ?_
  rotate_left
  · intro w'
    go_simp
    try with_reducible rfl
  rotate_left
  · simp only [Act.put, List.setIfInBounds_toArray, List.set_cons_zero, List.set_cons_succ, i64_w, i32_w]
    rfl
  refine pure_ (i := 11) (N := some 10) (v := ?_) (a' := ?_) #[true, true, true, true, true, true, true, true, true, true, true, true] rfl rfl (by kernel_rfl) (fun _ _ _ h => h) (Or.inl ⟨by rfl, ?_⟩) ?_ ?_
  rotate_left
  · intro w'
    go_simp
    try with_reducible rfl
  rotate_left
  · simp only [Act.put, List.setIfInBounds_toArray, List.set_cons_zero, List.set_cons_succ, i64_w, i32_w]
    rfl
  refine done_ (by kernel_rfl) ?_
  clear hB
  have hB := hHeld
  clear hHeld
  go_wp2_with fail
  refine (M3.out _).mono ?_
  rintro e wz ⟨rfl, hb_⟩
  replace hB := hB.step hb_
  clear hb_
  go_wp2_with fail
  refine start_ (n := 12) (S := fun wx => B3 w wx (.cells #[.int .i64 an, .int .i64 ad] 23) (.cells #[.int .i64 bn, .int .i64 bd] 23) (.cells #[.int .i64 0, .int .i64 0] 23)) (ds := []) #[false, false, false, false, false, false, false, false, false, false, false, false] (by kernel_rfl) rfl rfl (hB.step (below_drew (Below.refl _ _))) (fun hHeld => ?_)
  refine pure_ (i := 0) (N := some 52) (v := ?_) (a' := ?_) #[true, false, false, false, false, false, false, false, false, false, false, false] rfl rfl (by kernel_rfl) (fun _ _ _ h => h) (Or.inl ⟨by rfl, ?_⟩) ?_ ?_
  rotate_left
  · intro w'
    go_simp
    try with_reducible rfl
  rotate_left
  · simp only [Act.put, List.setIfInBounds_toArray, List.set_cons_zero, List.set_cons_succ, i64_w, i32_w]
    rfl
  refine take_ (i := 1) (N := some 53) (v := ?_) (a' := ?_) #[true, true, false, false, false, false, false, false, false, false, false, false] rfl rfl (by kernel_rfl) (fun _ _ _ h => h) (Or.inl ⟨by rfl, ?_⟩) hHeld ?_ ?_
  rotate_left
  · rintro w' hh
    have s0 : w'.cell? ⟨w.heap.size, 0, none⟩ = some (.int .i64 an) := blk_cell hh.b1 0
    have s1 : w'.cell? ⟨w.heap.size, 1, none⟩ = some (.int .i64 ad) := blk_cell hh.b1 1
    have s2 : w'.cell? ⟨w.heap.size + 1, 0, none⟩ = some (.int .i64 bn) := blk_cell hh.b2 0
    have s3 : w'.cell? ⟨w.heap.size + 1, 1, none⟩ = some (.int .i64 bd) := blk_cell hh.b2 1
    go_simp
    with_reducible rfl
  rotate_left
  · simp only [Act.put, List.setIfInBounds_toArray, List.set_cons_zero, List.set_cons_succ, i64_w, i32_w]
    rfl
  refine pure_ (i := 2) (N := some 54) (v := ?_) (a' := ?_) #[true, true, true, false, false, false, false, false, false, false, false, false] rfl rfl (by kernel_rfl) (fun _ _ _ h => h) (Or.inl ⟨by rfl, ?_⟩) ?_ ?_
  rotate_left
  · intro w'
    go_simp
    try with_reducible rfl
  rotate_left
  · simp only [Act.put, List.setIfInBounds_toArray, List.set_cons_zero, List.set_cons_succ, i64_w, i32_w]
    rfl
  refine take_ (i := 3) (N := some 55) (v := ?_) (a' := ?_) #[true, true, true, true, false, false, false, false, false, false, false, false] rfl rfl (by kernel_rfl) (fun _ _ _ h => h) (Or.inl ⟨by rfl, ?_⟩) hHeld ?_ ?_
  rotate_left
  · rintro w' hh
    have s0 : w'.cell? ⟨w.heap.size, 0, none⟩ = some (.int .i64 an) := blk_cell hh.b1 0
    have s1 : w'.cell? ⟨w.heap.size, 1, none⟩ = some (.int .i64 ad) := blk_cell hh.b1 1
    have s2 : w'.cell? ⟨w.heap.size + 1, 0, none⟩ = some (.int .i64 bn) := blk_cell hh.b2 0
    have s3 : w'.cell? ⟨w.heap.size + 1, 1, none⟩ = some (.int .i64 bd) := blk_cell hh.b2 1
    go_simp
    with_reducible rfl
  rotate_left
  · simp only [Act.put, List.setIfInBounds_toArray, List.set_cons_zero, List.set_cons_succ, i64_w, i32_w]
    rfl
  refine pure_ (i := 4) (N := some 56) (v := ?_) (a' := ?_) #[true, true, true, true, true, false, false, false, false, false, false, false] rfl rfl (by kernel_rfl) (fun _ _ _ h => h) (Or.inl ⟨by rfl, ?_⟩) ?_ ?_
  rotate_left
  · intro w'
    go_simp
    try with_reducible rfl
  rotate_left
  · simp only [Act.put, List.setIfInBounds_toArray, List.set_cons_zero, List.set_cons_succ, i64_w, i32_w]
    rfl
  refine pure_ (i := 5) (N := some 57) (v := ?_) (a' := ?_) #[true, true, true, true, true, true, false, false, false, false, false, false] rfl rfl (by kernel_rfl) (fun _ _ _ h => h) (Or.inl ⟨by rfl, ?_⟩) ?_ ?_
  rotate_left
  · intro w'
    go_simp
    try with_reducible rfl
  rotate_left
  · simp only [Act.put, List.setIfInBounds_toArray, List.set_cons_zero, List.set_cons_succ, i64_w, i32_w]
    rfl
  refine one_ (i := 6) (N := some 58) #[true, true, true, true, true, true, true, false, false, false, false, false] rfl rfl (by kernel_rfl) (by decide) (fun K hK => ?_)
  refine goes_ Try.func80 (by kernel_rfl) rfl #[.int .i64 ad, .int .i64 (wrap64 (bd.tdiv g))] (by rfl) rfl rfl (by (try simp only [List.map_toArray, List.map_cons, List.map_nil]); first | done | rfl) ?_
  refine (M4.out _).mono ?_
  rintro e wz ⟨rfl, hb_⟩
  refine ⟨_, rfl, ?_⟩
  refine hK.out _ _ (hHeld.step hb_) (fun hHeld => ?_)
  clear hK K
  refine norm_ (a' := ?_) ?_ ?_
  rotate_left
  · show Act.put _ (some 58) _ = _
    simp only [Act.put, List.setIfInBounds_toArray, List.set_cons_zero, List.set_cons_succ, i64_w, i32_w]
    rfl
  refine pure_ (i := 7) (N := some 51) (v := ?_) (a' := ?_) #[true, true, true, true, true, true, true, true, false, false, false, false] rfl rfl (by kernel_rfl) (fun _ _ _ h => h) (Or.inl ⟨by rfl, ?_⟩) ?_ ?_
  rotate_left
  · intro w'
    go_simp
    try with_reducible rfl
  rotate_left
  · simp only [Act.put, List.setIfInBounds_toArray, List.set_cons_zero, List.set_cons_succ, i64_w, i32_w]
    rfl
  refine pure_ (i := 8) (N := some 59) (v := ?_) (a' := ?_) #[true, true, true, true, true, true, true, true, true, false, false, false] rfl rfl (by kernel_rfl) (fun _ _ _ h => h) (Or.inl ⟨by rfl, ?_⟩) ?_ ?_
  rotate_left
  · intro w'
    go_simp
    try with_reducible rfl
  rotate_left
  · simp only [Act.put, List.setIfInBounds_toArray, List.set_cons_zero, List.set_cons_succ, i64_w, i32_w]
    rfl
  refine pure_ (i := 9) (N := some 60) (v := ?_) (a' := ?_) #[true, true, true, true, true, true, true, true, true, true, false, false] rfl rfl (by kernel_rfl) (fun _ _ _ h => h) (Or.inl ⟨by rfl, ?_⟩) ?_ ?_
  rotate_left
  · intro w'
    go_simp
    try with_reducible rfl
  rotate_left
  · simp only [Act.put, List.setIfInBounds_toArray, List.set_cons_zero, List.set_cons_succ, i64_w, i32_w]
    rfl
  refine pure_ (i := 10) (N := some 13) (v := ?_) (a' := ?_) #[true, true, true, true, true, true, true, true, true, true, true, false] rfl rfl (by kernel_rfl) (fun _ _ _ h => h) (Or.inl ⟨by rfl, ?_⟩) ?_ ?_
  rotate_left
  · intro w'
    go_simp
    try with_reducible rfl
  rotate_left
  · simp only [Act.put, List.setIfInBounds_toArray, List.set_cons_zero, List.set_cons_succ, i64_w, i32_w]
    rfl
  refine pure_ (i := 11) (N := some 14) (v := ?_) (a' := ?_) #[true, true, true, true, true, true, true, true, true, true, true, true] rfl rfl (by kernel_rfl) (fun _ _ _ h => h) (Or.inl ⟨by rfl, ?_⟩) ?_ ?_
  rotate_left
  · intro w'
    go_simp
    try with_reducible rfl
  rotate_left
  · simp only [Act.put, List.setIfInBounds_toArray, List.set_cons_zero, List.set_cons_succ, i64_w, i32_w]
    rfl
  refine done_ (by kernel_rfl) ?_
  clear hB
  have hB := hHeld
  clear hHeld
  cases ox with
  | false =>
    have hx_ := hB.b3
    have d_0 : wz.cell? ⟨w.heap.size + 1 + 1, 0, none⟩ = some (.int .i64 0) := blk_cell hx_ 0
    have df_0 : wz.frozen? ⟨w.heap.size + 1 + 1, 0, none⟩ = false := blk_frozen hx_ 0
    have d_1 : wz.cell? ⟨w.heap.size + 1 + 1, 1, none⟩ = some (.int .i64 0) := blk_cell hx_ 1
    have df_1 : wz.frozen? ⟨w.heap.size + 1 + 1, 1, none⟩ = false := blk_frozen hx_ 1
    go_wp2_with fail
    have k_ := (blk_set (blk_set hx_ 0 (.int .i64 0)) 1 (.int .i64 0))
    have hB_ := (Below.setCell (Below.setCell hB.be (p := ⟨w.heap.size + 1 + 1, 0, none⟩) ((by show w.heap.size ≤ w.heap.size + 1 + 1; omega)) (.int .i64 0)) (p := ⟨w.heap.size + 1 + 1, 1, none⟩) ((by show w.heap.size ≤ w.heap.size + 1 + 1; omega)) (.int .i64 0))
    obtain ⟨w_, hw_⟩ : ∃ w_, w_ = (World.setCell (World.setCell wz ⟨w.heap.size + 1 + 1, 0, none⟩ (.int .i64 0)) ⟨w.heap.size + 1 + 1, 1, none⟩ (.int .i64 0)) := ⟨_, rfl⟩
    rw [← hw_] at k_ hB_
    try rw [← hw_]
    clear hw_
    have s_0 : w_.cell? ⟨w.heap.size + 1 + 1, 0, none⟩ = some (.int .i64 0) := blk_cell k_ 0
    have s_1 : w_.cell? ⟨w.heap.size + 1 + 1, 1, none⟩ = some (.int .i64 0) := blk_cell k_ 1
    refine bodyPost_ret (by simp [results, Try.results58, go_sem, s_0, s_1]; try rfl) rfl ?_
    rw [K2.out (by trivial)]
    exact ⟨rfl, hB_⟩
  | true =>
    cases oy with
    | false =>
      have hx_ := hB.b3
      have d_0 : wz.cell? ⟨w.heap.size + 1 + 1, 0, none⟩ = some (.int .i64 0) := blk_cell hx_ 0
      have df_0 : wz.frozen? ⟨w.heap.size + 1 + 1, 0, none⟩ = false := blk_frozen hx_ 0
      have d_1 : wz.cell? ⟨w.heap.size + 1 + 1, 1, none⟩ = some (.int .i64 0) := blk_cell hx_ 1
      have df_1 : wz.frozen? ⟨w.heap.size + 1 + 1, 1, none⟩ = false := blk_frozen hx_ 1
      go_wp2_with fail
      have k_ := (blk_set (blk_set hx_ 0 (.int .i64 0)) 1 (.int .i64 0))
      have hB_ := (Below.setCell (Below.setCell hB.be (p := ⟨w.heap.size + 1 + 1, 0, none⟩) ((by show w.heap.size ≤ w.heap.size + 1 + 1; omega)) (.int .i64 0)) (p := ⟨w.heap.size + 1 + 1, 1, none⟩) ((by show w.heap.size ≤ w.heap.size + 1 + 1; omega)) (.int .i64 0))
      obtain ⟨w_, hw_⟩ : ∃ w_, w_ = (World.setCell (World.setCell wz ⟨w.heap.size + 1 + 1, 0, none⟩ (.int .i64 0)) ⟨w.heap.size + 1 + 1, 1, none⟩ (.int .i64 0)) := ⟨_, rfl⟩
      rw [← hw_] at k_ hB_
      try rw [← hw_]
      clear hw_
      have s_0 : w_.cell? ⟨w.heap.size + 1 + 1, 0, none⟩ = some (.int .i64 0) := blk_cell k_ 0
      have s_1 : w_.cell? ⟨w.heap.size + 1 + 1, 1, none⟩ = some (.int .i64 0) := blk_cell k_ 1
      refine bodyPost_ret (by simp [results, Try.results58, go_sem, s_0, s_1]; try rfl) rfl ?_
      rw [K3.out (by trivial)]
      exact ⟨rfl, hB_⟩
    | true =>
      cases os with
      | false =>
        have hx_ := hB.b3
        have d_0 : wz.cell? ⟨w.heap.size + 1 + 1, 0, none⟩ = some (.int .i64 0) := blk_cell hx_ 0
        have df_0 : wz.frozen? ⟨w.heap.size + 1 + 1, 0, none⟩ = false := blk_frozen hx_ 0
        have d_1 : wz.cell? ⟨w.heap.size + 1 + 1, 1, none⟩ = some (.int .i64 0) := blk_cell hx_ 1
        have df_1 : wz.frozen? ⟨w.heap.size + 1 + 1, 1, none⟩ = false := blk_frozen hx_ 1
        go_wp2_with fail
        have k_ := (blk_set (blk_set hx_ 0 (.int .i64 0)) 1 (.int .i64 0))
        have hB_ := (Below.setCell (Below.setCell hB.be (p := ⟨w.heap.size + 1 + 1, 0, none⟩) ((by show w.heap.size ≤ w.heap.size + 1 + 1; omega)) (.int .i64 0)) (p := ⟨w.heap.size + 1 + 1, 1, none⟩) ((by show w.heap.size ≤ w.heap.size + 1 + 1; omega)) (.int .i64 0))
        obtain ⟨w_, hw_⟩ : ∃ w_, w_ = (World.setCell (World.setCell wz ⟨w.heap.size + 1 + 1, 0, none⟩ (.int .i64 0)) ⟨w.heap.size + 1 + 1, 1, none⟩ (.int .i64 0)) := ⟨_, rfl⟩
        rw [← hw_] at k_ hB_
        try rw [← hw_]
        clear hw_
        have s_0 : w_.cell? ⟨w.heap.size + 1 + 1, 0, none⟩ = some (.int .i64 0) := blk_cell k_ 0
        have s_1 : w_.cell? ⟨w.heap.size + 1 + 1, 1, none⟩ = some (.int .i64 0) := blk_cell k_ 1
        refine bodyPost_ret (by simp [results, Try.results58, go_sem, s_0, s_1]; try rfl) rfl ?_
        rw [K4.out (by trivial) (by trivial) (by trivial)]
        exact ⟨rfl, hB_⟩
      | true =>
        cases od with
        | false =>
          have hx_ := hB.b3
          have d_0 : wz.cell? ⟨w.heap.size + 1 + 1, 0, none⟩ = some (.int .i64 0) := blk_cell hx_ 0
          have df_0 : wz.frozen? ⟨w.heap.size + 1 + 1, 0, none⟩ = false := blk_frozen hx_ 0
          have d_1 : wz.cell? ⟨w.heap.size + 1 + 1, 1, none⟩ = some (.int .i64 0) := blk_cell hx_ 1
          have df_1 : wz.frozen? ⟨w.heap.size + 1 + 1, 1, none⟩ = false := blk_frozen hx_ 1
          go_wp2_with fail
          have k_ := (blk_set (blk_set hx_ 0 (.int .i64 0)) 1 (.int .i64 0))
          have hB_ := (Below.setCell (Below.setCell hB.be (p := ⟨w.heap.size + 1 + 1, 0, none⟩) ((by show w.heap.size ≤ w.heap.size + 1 + 1; omega)) (.int .i64 0)) (p := ⟨w.heap.size + 1 + 1, 1, none⟩) ((by show w.heap.size ≤ w.heap.size + 1 + 1; omega)) (.int .i64 0))
          obtain ⟨w_, hw_⟩ : ∃ w_, w_ = (World.setCell (World.setCell wz ⟨w.heap.size + 1 + 1, 0, none⟩ (.int .i64 0)) ⟨w.heap.size + 1 + 1, 1, none⟩ (.int .i64 0)) := ⟨_, rfl⟩
          rw [← hw_] at k_ hB_
          try rw [← hw_]
          clear hw_
          have s_0 : w_.cell? ⟨w.heap.size + 1 + 1, 0, none⟩ = some (.int .i64 0) := blk_cell k_ 0
          have s_1 : w_.cell? ⟨w.heap.size + 1 + 1, 1, none⟩ = some (.int .i64 0) := blk_cell k_ 1
          refine bodyPost_ret (by simp [results, Try.results58, go_sem, s_0, s_1]; try rfl) rfl ?_
          rw [K5.out (by trivial)]
          exact ⟨rfl, hB_⟩
        | true =>
          obtain ⟨kn, kd, kp, km⟩ := K1.out (by trivial) (by trivial) (by trivial) (by trivial)
          go_wp2_with fail
          refine (refmake_calls kn kd kp _).mono ?_
          rintro e w5 ⟨rfl, hb5⟩
          replace hB := hB.step hb5
          clear hb5
          have hw5 := hB.size
          obtain ⟨x, hx⟩ : ∃ x, (low n d).1 = x := ⟨_, rfl⟩
          obtain ⟨y, hy⟩ : ∃ x, (low n d).2 = x := ⟨_, rfl⟩
          have KM := Lib.hid km
          have hxy : low n d = (x, y) := by rw [← hx, ← hy]
          have HXY := Lib.hid hxy
          rw [hx, hy]
          clear km hxy hx hy
          replace hB := hB.step (below_alloc (Below.refl _ _) (.cells #[.int .i64 x, .int .i64 y] 23))
          have kx := blk_new w5 (.cells #[.int .i64 x, .int .i64 y] 23)
          have c0 : (w5.alloc (.cells #[.int .i64 x, .int .i64 y] 23)).cell? ⟨w5.heap.size, 0, none⟩ = some (.int .i64 x) := blk_cell kx 0
          have c1 : (w5.alloc (.cells #[.int .i64 x, .int .i64 y] 23)).cell? ⟨w5.heap.size, 1, none⟩ = some (.int .i64 y) := blk_cell kx 1
          have hx_ := hB.b3
          have d_0 : (w5.alloc (.cells #[.int .i64 x, .int .i64 y] 23)).cell? ⟨w.heap.size + 1 + 1, 0, none⟩ = some (.int .i64 0) := blk_cell hx_ 0
          have df_0 : (w5.alloc (.cells #[.int .i64 x, .int .i64 y] 23)).frozen? ⟨w.heap.size + 1 + 1, 0, none⟩ = false := blk_frozen hx_ 0
          have d_1 : (w5.alloc (.cells #[.int .i64 x, .int .i64 y] 23)).cell? ⟨w.heap.size + 1 + 1, 1, none⟩ = some (.int .i64 0) := blk_cell hx_ 1
          have df_1 : (w5.alloc (.cells #[.int .i64 x, .int .i64 y] 23)).frozen? ⟨w.heap.size + 1 + 1, 1, none⟩ = false := blk_frozen hx_ 1
          go_wp2_with fail
          have k_ := (blk_set (blk_set hx_ 0 (.int .i64 x)) 1 (.int .i64 y))
          have hB_ := (Below.setCell (Below.setCell hB.be (p := ⟨w.heap.size + 1 + 1, 0, none⟩) ((by show w.heap.size ≤ w.heap.size + 1 + 1; omega)) (.int .i64 x)) (p := ⟨w.heap.size + 1 + 1, 1, none⟩) ((by show w.heap.size ≤ w.heap.size + 1 + 1; omega)) (.int .i64 y))
          obtain ⟨w_, hw_⟩ : ∃ w_, w_ = (World.setCell (World.setCell (w5.alloc (.cells #[.int .i64 x, .int .i64 y] 23)) ⟨w.heap.size + 1 + 1, 0, none⟩ (.int .i64 x)) ⟨w.heap.size + 1 + 1, 1, none⟩ (.int .i64 y)) := ⟨_, rfl⟩
          rw [← hw_] at k_ hB_
          try rw [← hw_]
          clear hw_
          have s_0 : w_.cell? ⟨w.heap.size + 1 + 1, 0, none⟩ = some (.int .i64 x) := blk_cell k_ 0
          have s_1 : w_.cell? ⟨w.heap.size + 1 + 1, 1, none⟩ = some (.int .i64 y) := blk_cell k_ 1
          refine bodyPost_ret (by simp [results, Try.results58, go_sem, s_0, s_1]; try rfl) rfl ?_
          rw [KM.out, HXY.out]
          exact ⟨rfl, hB_⟩
end Go.Proofs.Ytcldlfhnmkogeaa.RefWalk


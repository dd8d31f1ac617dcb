import Derived.Test.YtcldlfhnmkogeaaRefNumPRaw
import Derived.Test.YtcldlfhnmkogeaaRatRef
import Derived.Test.YtcldlfhnmkogeaaRatAdd
/- The document's fractions (lancetref02), walked. -/
set_option linter.unusedVariables false
set_option linter.unusedSimpArgs false
namespace Go.Proofs.Ytcldlfhnmkogeaa.RefWalk
open Go.RowKit Go.Proofs.YtcldlfhnmkogeaaW.PrintWords Go.Proofs.YtcldlfhnmkogeaaW.PrintLast Go.Proofs.Ytcldlfhnmkogeaa.Nats Go.Proofs.Ytcldlfhnmkogeaa.HeapKit Go.Proofs.Ytcldlfhnmkogeaa.RatPlain

theorem size_calls {a : Int} (h : I64 a) (w : World) : Calls Try.prog 51 #[.int .i64 a] w fun e w' => e = .returned (.int .u64 (a.natAbs : Int)) ∧ Below w.heap.size w w' := by
  refine (PRaw.lancetref01_Size.calls a _ w (RefPRaw.size h)).mono ?_
  rintro e w' ⟨rfl, hb⟩
  exact ⟨rfl, hb.below⟩
theorem gcd_calls {a b : Int} (hb : I64 b) (w : World) : Calls Try.prog 50 #[.int .u64 (a.natAbs : Int), .int .u64 (b.natAbs : Int)] w fun e w' => e = .returned (.int .u64 ((Int.gcd a b : Nat) : Int)) ∧ Below w.heap.size w w' := by
  refine (PRaw.lancetref01_Gcd.calls (big + 1) _ _ _ w (RefPRaw.gcd hb (by omega))).mono ?_
  rintro e w' ⟨rfl, hb⟩
  exact ⟨rfl, hb.below⟩
theorem mul_calls01 {a b : Int} (ha : I64 a) (hb : I64 b) {n : Int} {o : Bool} (h : RatPlain.watched (a * b) = (n, o)) (w : World) : Calls Try.prog 80 #[.int .i64 a, .int .i64 b] w fun e w' => e = .returned (.tuple #[.int .i64 n, .bool o]) ∧ Below w.heap.size w w' := by
  refine (PRaw.lancetref01_Mul.calls (big + 1) a b n o w (by rw [RefPRaw.mul ha hb (by unfold big; omega), h])).mono ?_
  rintro e w' ⟨rfl, hb⟩
  exact ⟨rfl, hb.below⟩
theorem add01 {a b : Int} (ha : I64 a) (hb : I64 b) : PRaw.lancetref01_Add.f a b = some (RatPlain.watched (a + b)) := by
  unfold PRaw.lancetref01_Add.f
  rw [u64_wrap, u64_wrap, u64_wrap]
  obtain ⟨s, hs⟩ : ∃ s, s = wrap64 ((a % 18446744073709551616 + b % 18446744073709551616) % 18446744073709551616) := ⟨_, rfl⟩
  rw [← hs]
  unfold I64 at ha hb
  have hs2 : s = wrap64 (a + b) := by rw [hs]; unfold wrap64; omega
  have hs3 := hs2
  unfold wrap64 at hs3
  by_cases hi : I64 (a + b)
  · rw [watched_yes hi]
    have e : s = a + b := by rw [hs2]; exact wrap_in hi
    unfold I64 at hi
    rw [← e]
    repeat' split
    all_goals first | rfl | (exfalso; omega)
  · rw [watched_no hi]
    unfold I64 at hi
    repeat' split
    all_goals first | rfl | (exfalso; omega)
theorem add_calls01 {a b : Int} (ha : I64 a) (hb : I64 b) {n : Int} {o : Bool} (h : RatPlain.watched (a + b) = (n, o)) (w : World) : Calls Try.prog 81 #[.int .i64 a, .int .i64 b] w fun e w' => e = .returned (.tuple #[.int .i64 n, .bool o]) ∧ Below w.heap.size w w' := by
  refine (PRaw.lancetref01_Add.calls a b n o w (by rw [add01 ha hb, h])).mono ?_
  rintro e w' ⟨rfl, hb⟩
  exact ⟨rfl, hb.below⟩

set_option maxRecDepth 100000 in
set_option maxHeartbeats 4000000 in
theorem make_neg {n d : Int} (hn : I64 n) (hd : I64 d) (h0 : 0 < d) (hs : n < 0) (w : World) :
    Calls Try.prog 82 #[.int .i64 n, .int .i64 d] w fun e w' => e = .returned (.tuple #[.agg #[.int .i64 (low n d).1, .int .i64 (low n d).2], .int .i64 0]) ∧ Below w.heap.size w w' := by
  have hg := gcd_pos (a := n) h0
  have s1 := fun w => size_calls hn w
  have s2 := fun w => size_calls hd w
  have s3 := fun w => gcd_calls (a := n) hd w
  have hx : ((n.natAbs : Int).tdiv (Int.gcd n d : Nat)) = -(low n d).1 := by
    show _ = -(n.tdiv (Int.gcd n d : Nat))
    have : (n.natAbs : Int) = -n := by omega
    rw [this]
    rw [Int.neg_tdiv]
  have hy : ((d.natAbs : Int).tdiv (Int.gcd n d : Nat)) = (low n d).2 := by
    have : (d.natAbs : Int) = d := by omega
    rw [this]
    rfl
  have i1 := hn.tdiv hg
  have i2 := hd.tdiv hg
  have k1 : I64 (low n d).1 := i1
  have k2 : I64 (low n d).2 := i2
  have kp : 0 < (low n d).2 := exact_pos h0 (dvd_right n d) hg
  have kx : 0 ≤ ((n.natAbs : Int).tdiv (Int.gcd n d : Nat)) := Int.tdiv_nonneg (by omega) (by omega)
  obtain ⟨m, hm⟩ : ∃ m, (n.natAbs : Int) = m := ⟨_, rfl⟩
  obtain ⟨l, hl⟩ : ∃ m, (d.natAbs : Int) = m := ⟨_, rfl⟩
  obtain ⟨g, hgg⟩ : ∃ m, ((Int.gcd n d : Nat) : Int) = m := ⟨_, rfl⟩
  simp only [hm, hl, hgg] at s1 s2 s3 hx hy kx
  have hg1 : ¬ g = 0 := by omega
  have hg2 : (g == 0) = false := by simp [hg1]
  obtain ⟨x, hxx⟩ : ∃ x, m.tdiv g = x := ⟨_, rfl⟩
  obtain ⟨a, ha⟩ : ∃ a, (low n d).1 = a := ⟨_, rfl⟩
  obtain ⟨y, hyy⟩ : ∃ y, (low n d).2 = y := ⟨_, rfl⟩
  rw [hxx] at kx
  rw [hxx, ha] at hx
  rw [hyy] at hy kp k2
  rw [ha] at k1
  rw [ha, hyy]
  unfold I64 at k1 k2
  have e1 : IntKind.u64.wrap (m.tdiv g) = x := by rw [hxx, u64_wrap]; omega
  have e2 : IntKind.u64.wrap (l.tdiv g) = y := by rw [hy, u64_wrap]; omega
  have e3 : IntKind.i64.wrap y = y := by rw [i64_w]; exact wrap_in k2
  have e4 : IntKind.i64.wrap (IntKind.u64.wrap (-x)) = a := by rw [i64_w, u64_wrap]; unfold wrap64; omega
  have hn1 : (n == 0) = false := by simp; omega
  have hn2 : decide (n < 0) = true := by simp; omega
  have hd1 : (d == 0) = false := by simp; omega
  have hd3 : decide (d < 0) = false := by simp; omega
  have t1 : decide (y > 9223372036854775807) = false := by simp; omega
  have t2 : decide (x > 9223372036854775808) = false := by simp; omega
  have S1 := Lib.hid s1
  have S2 := Lib.hid s2
  have S3 := Lib.hid s3
  clear s1 s2 s3 hx hy hxx ha hyy hm hl hgg hg i1 i2
  go_enter Try.func82, Try.ntmps82
  go_wp2_with fail
  refine (S1.out _).mono ?_
  rintro e w1 ⟨rfl, hb1⟩
  have hB := (b1_start w (.cells #[.int .i64 0, .int .i64 0] 23)).step hb1
  clear hb1
  go_wp2_with fail
  refine (S2.out _).mono ?_
  rintro e w2 ⟨rfl, hb2⟩
  replace hB := hB.step hb2
  clear hb2
  go_wp2_with fail
  refine (S3.out _).mono ?_
  rintro e w3 ⟨rfl, hb3⟩
  replace hB := hB.step hb3
  clear hb3
  have hx_ := hB.b1
  have d_0 : w3.cell? ⟨w.heap.size, 0, none⟩ = some (.int .i64 0) := blk_cell hx_ 0
  have df_0 : w3.frozen? ⟨w.heap.size, 0, none⟩ = false := blk_frozen hx_ 0
  have d_1 : w3.cell? ⟨w.heap.size, 1, none⟩ = some (.int .i64 0) := blk_cell hx_ 1
  have df_1 : w3.frozen? ⟨w.heap.size, 1, none⟩ = false := blk_frozen hx_ 1
  go_wp2_with fail
  have k_ := (blk_set (blk_set hx_ 0 (.int .i64 a)) 1 (.int .i64 y))
  have hB_ := (Below.setCell (Below.setCell hB.be (p := ⟨w.heap.size, 0, none⟩) (Nat.le_refl _) (.int .i64 a)) (p := ⟨w.heap.size, 1, none⟩) (Nat.le_refl _) (.int .i64 y))
  obtain ⟨w_, hw_⟩ : ∃ w_, w_ = (World.setCell (World.setCell w3 ⟨w.heap.size, 0, none⟩ (.int .i64 a)) ⟨w.heap.size, 1, none⟩ (.int .i64 y)) := ⟨_, rfl⟩
  rw [← hw_] at k_ hB_
  try rw [← hw_]
  clear hw_
  have s_0 : w_.cell? ⟨w.heap.size, 0, none⟩ = some (.int .i64 a) := blk_cell k_ 0
  have s_1 : w_.cell? ⟨w.heap.size, 1, none⟩ = some (.int .i64 y) := blk_cell k_ 1
  refine bodyPost_ret (by simp [results, Try.results82, go_sem, s_0, s_1]; try rfl) rfl ?_
  exact ⟨rfl, hB_⟩

set_option maxRecDepth 100000 in
set_option maxHeartbeats 4000000 in
theorem make_pos {n d : Int} (hn : I64 n) (hd : I64 d) (h0 : 0 < d) (hs : 0 < n) (w : World) :
    Calls Try.prog 82 #[.int .i64 n, .int .i64 d] w fun e w' => e = .returned (.tuple #[.agg #[.int .i64 (low n d).1, .int .i64 (low n d).2], .int .i64 0]) ∧ Below w.heap.size w w' := by
  have hg := gcd_pos (a := n) h0
  have s1 := fun w => size_calls hn w
  have s2 := fun w => size_calls hd w
  have s3 := fun w => gcd_calls (a := n) hd w
  have hx : ((n.natAbs : Int).tdiv (Int.gcd n d : Nat)) = (low n d).1 := by
    show _ = n.tdiv (Int.gcd n d : Nat)
    have : (n.natAbs : Int) = n := by omega
    rw [this]
  have hy : ((d.natAbs : Int).tdiv (Int.gcd n d : Nat)) = (low n d).2 := by
    have : (d.natAbs : Int) = d := by omega
    rw [this]
    rfl
  have i1 := hn.tdiv hg
  have i2 := hd.tdiv hg
  have k1 : I64 (low n d).1 := i1
  have k2 : I64 (low n d).2 := i2
  have kp : 0 < (low n d).2 := exact_pos h0 (dvd_right n d) hg
  have kx : 0 ≤ ((n.natAbs : Int).tdiv (Int.gcd n d : Nat)) := Int.tdiv_nonneg (by omega) (by omega)
  obtain ⟨m, hm⟩ : ∃ m, (n.natAbs : Int) = m := ⟨_, rfl⟩
  obtain ⟨l, hl⟩ : ∃ m, (d.natAbs : Int) = m := ⟨_, rfl⟩
  obtain ⟨g, hgg⟩ : ∃ m, ((Int.gcd n d : Nat) : Int) = m := ⟨_, rfl⟩
  simp only [hm, hl, hgg] at s1 s2 s3 hx hy kx
  have hg1 : ¬ g = 0 := by omega
  have hg2 : (g == 0) = false := by simp [hg1]
  obtain ⟨x, hxx⟩ : ∃ x, m.tdiv g = x := ⟨_, rfl⟩
  obtain ⟨a, ha⟩ : ∃ a, (low n d).1 = a := ⟨_, rfl⟩
  obtain ⟨y, hyy⟩ : ∃ y, (low n d).2 = y := ⟨_, rfl⟩
  rw [hxx] at kx
  rw [hxx, ha] at hx
  rw [hyy] at hy kp k2
  rw [ha] at k1
  rw [ha, hyy]
  unfold I64 at k1 k2
  have e1 : IntKind.u64.wrap (m.tdiv g) = x := by rw [hxx, u64_wrap]; omega
  have e2 : IntKind.u64.wrap (l.tdiv g) = y := by rw [hy, u64_wrap]; omega
  have e3 : IntKind.i64.wrap y = y := by rw [i64_w]; exact wrap_in k2
  have e4 : IntKind.i64.wrap x = a := by rw [i64_w, hx]; exact wrap_in k1
  have hn1 : (n == 0) = false := by simp; omega
  have hn2 : decide (n < 0) = false := by simp; omega
  have hn3 : (x == 9223372036854775808) = false := by simp; omega
  have hd1 : (d == 0) = false := by simp; omega
  have hd3 : decide (d < 0) = false := by simp; omega
  have t1 : decide (y > 9223372036854775807) = false := by simp; omega
  have t2 : decide (x > 9223372036854775808) = false := by simp; omega
  have S1 := Lib.hid s1
  have S2 := Lib.hid s2
  have S3 := Lib.hid s3
  clear s1 s2 s3 hx hy hxx ha hyy hm hl hgg hg i1 i2
  go_enter Try.func82, Try.ntmps82
  go_wp2_with fail
  refine (S1.out _).mono ?_
  rintro e w1 ⟨rfl, hb1⟩
  have hB := (b1_start w (.cells #[.int .i64 0, .int .i64 0] 23)).step hb1
  clear hb1
  go_wp2_with fail
  refine (S2.out _).mono ?_
  rintro e w2 ⟨rfl, hb2⟩
  replace hB := hB.step hb2
  clear hb2
  go_wp2_with fail
  refine (S3.out _).mono ?_
  rintro e w3 ⟨rfl, hb3⟩
  replace hB := hB.step hb3
  clear hb3
  have hx_ := hB.b1
  have d_0 : w3.cell? ⟨w.heap.size, 0, none⟩ = some (.int .i64 0) := blk_cell hx_ 0
  have df_0 : w3.frozen? ⟨w.heap.size, 0, none⟩ = false := blk_frozen hx_ 0
  have d_1 : w3.cell? ⟨w.heap.size, 1, none⟩ = some (.int .i64 0) := blk_cell hx_ 1
  have df_1 : w3.frozen? ⟨w.heap.size, 1, none⟩ = false := blk_frozen hx_ 1
  go_wp2_with fail
  have k_ := (blk_set (blk_set hx_ 0 (.int .i64 a)) 1 (.int .i64 y))
  have hB_ := (Below.setCell (Below.setCell hB.be (p := ⟨w.heap.size, 0, none⟩) (Nat.le_refl _) (.int .i64 a)) (p := ⟨w.heap.size, 1, none⟩) (Nat.le_refl _) (.int .i64 y))
  obtain ⟨w_, hw_⟩ : ∃ w_, w_ = (World.setCell (World.setCell w3 ⟨w.heap.size, 0, none⟩ (.int .i64 a)) ⟨w.heap.size, 1, none⟩ (.int .i64 y)) := ⟨_, rfl⟩
  rw [← hw_] at k_ hB_
  try rw [← hw_]
  clear hw_
  have s_0 : w_.cell? ⟨w.heap.size, 0, none⟩ = some (.int .i64 a) := blk_cell k_ 0
  have s_1 : w_.cell? ⟨w.heap.size, 1, none⟩ = some (.int .i64 y) := blk_cell k_ 1
  refine bodyPost_ret (by simp [results, Try.results82, go_sem, s_0, s_1]; try rfl) rfl ?_
  exact ⟨rfl, hB_⟩

set_option maxRecDepth 100000 in
set_option maxHeartbeats 4000000 in
theorem make_zero {d : Int} (hn : I64 0) (hd : I64 d) (h0 : 0 < d) (w : World) :
    Calls Try.prog 82 #[.int .i64 0, .int .i64 d] w fun e w' => e = .returned (.tuple #[.agg #[.int .i64 (low (0 : Int) d).1, .int .i64 (low (0 : Int) d).2], .int .i64 0]) ∧ Below w.heap.size w w' := by
  have hg := gcd_pos (a := 0) h0
  have s1 := fun w => size_calls hn w
  have s2 := fun w => size_calls hd w
  have s3 := fun w => gcd_calls (a := 0) hd w
  have hx : (((0 : Int).natAbs : Int).tdiv (Int.gcd (0 : Int) d : Nat)) = (low (0 : Int) d).1 := by
    show _ = (0 : Int).tdiv (Int.gcd (0 : Int) d : Nat)
    have : ((0 : Int).natAbs : Int) = (0 : Int) := rfl
    rw [this]
  have hy : ((d.natAbs : Int).tdiv (Int.gcd (0 : Int) d : Nat)) = (low (0 : Int) d).2 := by
    have : (d.natAbs : Int) = d := by omega
    rw [this]
    rfl
  have i1 := hn.tdiv hg
  have i2 := hd.tdiv hg
  have k1 : I64 (low (0 : Int) d).1 := i1
  have k2 : I64 (low (0 : Int) d).2 := i2
  have kp : 0 < (low (0 : Int) d).2 := exact_pos h0 (dvd_right (0 : Int) d) hg
  have kx : 0 ≤ (((0 : Int).natAbs : Int).tdiv (Int.gcd (0 : Int) d : Nat)) := Int.tdiv_nonneg (by omega) (by omega)
  obtain ⟨m, hm⟩ : ∃ m, ((0 : Int).natAbs : Int) = m := ⟨_, rfl⟩
  obtain ⟨l, hl⟩ : ∃ m, (d.natAbs : Int) = m := ⟨_, rfl⟩
  obtain ⟨g, hgg⟩ : ∃ m, ((Int.gcd (0 : Int) d : Nat) : Int) = m := ⟨_, rfl⟩
  simp only [hm, hl, hgg] at s1 s2 s3 hx hy kx
  have hg1 : ¬ g = 0 := by omega
  have hg2 : (g == 0) = false := by simp [hg1]
  obtain ⟨x, hxx⟩ : ∃ x, m.tdiv g = x := ⟨_, rfl⟩
  obtain ⟨a, ha⟩ : ∃ a, (low (0 : Int) d).1 = a := ⟨_, rfl⟩
  obtain ⟨y, hyy⟩ : ∃ y, (low (0 : Int) d).2 = y := ⟨_, rfl⟩
  rw [hxx] at kx
  rw [hxx, ha] at hx
  rw [hyy] at hy kp k2
  rw [ha] at k1
  rw [ha, hyy]
  unfold I64 at k1 k2
  have e1 : IntKind.u64.wrap (m.tdiv g) = x := by rw [hxx, u64_wrap]; omega
  have e2 : IntKind.u64.wrap (l.tdiv g) = y := by rw [hy, u64_wrap]; omega
  have e3 : IntKind.i64.wrap y = y := by rw [i64_w]; exact wrap_in k2
  have e4 : IntKind.i64.wrap x = a := by rw [i64_w, hx]; exact wrap_in k1
  have hn3 : (x == 9223372036854775808) = false := by simp; omega
  have hd1 : (d == 0) = false := by simp; omega
  have hd3 : decide (d < 0) = false := by simp; omega
  have t1 : decide (y > 9223372036854775807) = false := by simp; omega
  have t2 : decide (x > 9223372036854775808) = false := by simp; omega
  have S1 := Lib.hid s1
  have S2 := Lib.hid s2
  have S3 := Lib.hid s3
  clear s1 s2 s3 hx hy hxx ha hyy hm hl hgg hg i1 i2
  go_enter Try.func82, Try.ntmps82
  go_wp2_with fail
  refine (S1.out _).mono ?_
  rintro e w1 ⟨rfl, hb1⟩
  have hB := (b1_start w (.cells #[.int .i64 0, .int .i64 0] 23)).step hb1
  clear hb1
  go_wp2_with fail
  refine (S2.out _).mono ?_
  rintro e w2 ⟨rfl, hb2⟩
  replace hB := hB.step hb2
  clear hb2
  go_wp2_with fail
  refine (S3.out _).mono ?_
  rintro e w3 ⟨rfl, hb3⟩
  replace hB := hB.step hb3
  clear hb3
  have hx_ := hB.b1
  have d_0 : w3.cell? ⟨w.heap.size, 0, none⟩ = some (.int .i64 0) := blk_cell hx_ 0
  have df_0 : w3.frozen? ⟨w.heap.size, 0, none⟩ = false := blk_frozen hx_ 0
  have d_1 : w3.cell? ⟨w.heap.size, 1, none⟩ = some (.int .i64 0) := blk_cell hx_ 1
  have df_1 : w3.frozen? ⟨w.heap.size, 1, none⟩ = false := blk_frozen hx_ 1
  go_wp2_with fail
  have k_ := (blk_set (blk_set hx_ 0 (.int .i64 a)) 1 (.int .i64 y))
  have hB_ := (Below.setCell (Below.setCell hB.be (p := ⟨w.heap.size, 0, none⟩) (Nat.le_refl _) (.int .i64 a)) (p := ⟨w.heap.size, 1, none⟩) (Nat.le_refl _) (.int .i64 y))
  obtain ⟨w_, hw_⟩ : ∃ w_, w_ = (World.setCell (World.setCell w3 ⟨w.heap.size, 0, none⟩ (.int .i64 a)) ⟨w.heap.size, 1, none⟩ (.int .i64 y)) := ⟨_, rfl⟩
  rw [← hw_] at k_ hB_
  try rw [← hw_]
  clear hw_
  have s_0 : w_.cell? ⟨w.heap.size, 0, none⟩ = some (.int .i64 a) := blk_cell k_ 0
  have s_1 : w_.cell? ⟨w.heap.size, 1, none⟩ = some (.int .i64 y) := blk_cell k_ 1
  refine bodyPost_ret (by simp [results, Try.results82, go_sem, s_0, s_1]; try rfl) rfl ?_
  exact ⟨rfl, hB_⟩

theorem refmake_calls {n d : Int} (hn : I64 n) (hd : I64 d) (h0 : 0 < d) (w : World) :
    Calls Try.prog 82 #[.int .i64 n, .int .i64 d] w fun e w' => e = .returned (.tuple #[.agg #[.int .i64 (low n d).1, .int .i64 (low n d).2], .int .i64 0]) ∧ Below w.heap.size w w' := by
  rcases Int.lt_trichotomy n 0 with h | h | h
  · exact make_neg hn hd h0 h w
  · subst h
    exact make_zero hn hd h0 w
  · exact make_pos hn hd h0 h w
end Go.Proofs.Ytcldlfhnmkogeaa.RefWalk

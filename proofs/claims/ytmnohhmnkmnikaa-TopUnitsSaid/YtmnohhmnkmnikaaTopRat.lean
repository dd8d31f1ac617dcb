import Derived.Test.YtmnohhmnkmnikaaRatPlain
import Derived.Laws.Bits64b
import Derived.Test.YtmnohhmnkmnikaaHeapKit
import Derived.Test.YtmnohhmnkmnikaaPLessx1
/- Words of 64 bits, in plain Lean. -/
set_option linter.unusedVariables false
set_option linter.unusedSimpArgs false
namespace Go.Proofs.Ytmnohhmnkmnikaa.RatPlain
open Go.RowKit Go.Proofs.YtmnohhmnkmnikaaW.PrintWords

theorem low32 {a : Int} (h0 : 0 ≤ a) (h : a < 18446744073709551616) : Go.bits .and .u64 a 4294967295 = a % 4294967296 := by
  obtain ⟨n, rfl⟩ := Int.eq_ofNat_of_zero_le h0
  have := bits_and_u64_nat n 4294967295 (by omega) (by omega)
  have e : ((4294967295 : Nat) : Int) = 4294967295 := rfl
  rw [e] at this
  rw [this]
  have h2 := Nat.and_two_pow_sub_one_eq_mod n 32
  rw [show (2 ^ 32 - 1 : Nat) = 4294967295 from rfl, show (2 ^ 32 : Nat) = 4294967296 from rfl] at h2
  rw [h2]
  omega
theorem wrap_u64_in {x : Int} (h0 : 0 ≤ x) (h : x < 18446744073709551616) : IntKind.u64.wrap x = x := by rw [u64_wrap]; omega
theorem prod_le {a b m n : Int} (h0 : 0 ≤ a) (h1 : a ≤ m) (h2 : 0 ≤ b) (h3 : b ≤ n) : 0 ≤ a * b ∧ a * b ≤ m * n :=
  ⟨Int.mul_nonneg h0 h2, Int.mul_le_mul h1 h3 h2 (by omega)⟩
end Go.Proofs.Ytmnohhmnkmnikaa.RatPlain

/- A fraction made of two numbers of which the lower one is above 0, walked. -/
set_option linter.unusedVariables false
set_option linter.unusedSimpArgs false
namespace Go.Proofs.Ytmnohhmnkmnikaa.RatPlain
open Go.RowKit Go.Proofs.YtmnohhmnkmnikaaW.PrintWords Go.Proofs.YtmnohhmnkmnikaaW.PrintLast Go.Proofs.Ytmnohhmnkmnikaa.Nats Go.Proofs.Ytmnohhmnkmnikaa.HeapKit Go.Proofs.Ytmnohhmnkmnikaa.PAdd

/-- In lowest terms. -/
def low (n d : Int) : Int × Int := (n.tdiv (Int.gcd n d : Nat), d.tdiv (Int.gcd n d : Nat))
theorem exact_pos {d : Int} {g : Nat} (h0 : 0 < d) (hg : (g : Int) ∣ d) (hp : 0 < g) : 0 < d.tdiv g := by
  obtain ⟨c, rfl⟩ := hg
  rw [Int.mul_tdiv_cancel_left _ (by omega)]
  have : (g : Int) > 0 := by omega
  exact Int.pos_of_mul_pos_left (by rw [Int.mul_comm]; exact h0) this
theorem dvd_left (a b : Int) : ((Int.gcd a b : Nat) : Int) ∣ a := Int.gcd_dvd_left a b
theorem dvd_right (a b : Int) : ((Int.gcd a b : Nat) : Int) ∣ b := Int.gcd_dvd_right a b

set_option maxRecDepth 100000 in
set_option maxHeartbeats 2000000 in
theorem make_calls {n d : Int} (hn : I64 n) (hd : I64 d) (h0 : 0 < d) (w : World) :
    Calls Try.prog 44 #[.int .i64 n, .int .i64 d] w fun e w' => e = .returned (.tuple #[.agg #[.int .i64 (low n d).1, .int .i64 (low n d).2], .int .i64 0]) ∧ Below w.heap.size w w' := by
  have hg := gcd_pos (a := n) h0
  have hc := gcd_pos_eq hn hd h0 (k := big + 1) (by omega)
  have e1 : wrap64 (n.tdiv (Int.gcd n d : Nat)) = (low n d).1 := wrap_in (hn.tdiv hg)
  have e2 : wrap64 (d.tdiv (Int.gcd n d : Nat)) = (low n d).2 := wrap_in (hd.tdiv hg)
  have hp : 0 < (low n d).2 := exact_pos h0 (dvd_right n d) hg
  obtain ⟨x, hx⟩ : ∃ x, (low n d).1 = x := ⟨_, rfl⟩
  obtain ⟨y, hy⟩ : ∃ y, (low n d).2 = y := ⟨_, rfl⟩
  rw [hx] at e1
  rw [hy] at e2 hp
  rw [hx, hy]
  clear hx hy
  obtain ⟨g, hgg⟩ : ∃ g, ((Int.gcd n d : Nat) : Int) = g := ⟨_, rfl⟩
  rw [hgg] at e1 e2 hc
  have hg1 : ¬ g = 0 := by omega
  have hg2 : (g == 0) = false := by simp [hg1]
  have hd1 : (d == 0) = false := by simp; omega
  have hd2 : ¬ d = 0 := by omega
  have hy1 : decide (y < 0) = false := by simp; omega
  have hy2 : ¬ y < 0 := by omega
  have E1 := Lib.hid e1
  have E2 := Lib.hid e2
  clear hgg hg e1 e2
  go_enter Try.func44, Try.ntmps44
  go_wp2_with fail
  refine (whole_Gcd.calls (big + 1) n d g true _ hc).mono ?_
  rintro e w1 ⟨rfl, hb1⟩
  have x1 := blk_below (blk_new w (.cells #[.int .i64 0, .int .i64 0] 53)) hb1.below
  have hB1 := bthen (below_alloc (Below.refl w.heap.size w) (.cells #[.int .i64 0, .int .i64 0] 53)) hb1.below
  go_wp2_with fail
  refine start_ (n := 9) (S := fun wx => wx.heap[w.heap.size]? = some (.cells #[.int .i64 0, .int .i64 0] 53 (0, 0)) ∧ Below w.heap.size w wx) (ds := []) #[false, false, false, false, false, false, false, false, false] (by kernel_rfl) rfl rfl ⟨blk_drew x1, below_drew1 hB1⟩ (fun hHeld => ?_)
  refine pure_ (i := 0) (N := some 28) (v := ?_) (a' := ?_) #[true, false, false, false, false, false, false, false, false] rfl rfl (by kernel_rfl) (fun _ _ _ h => h) (Or.inl ⟨by rfl, ?_⟩) ?_ ?_
  rotate_left
  · intro w'
    go_simp
    try with_reducible rfl
  rotate_left
  · simp only [Act.put, List.setIfInBounds_toArray, List.set_cons_zero, List.set_cons_succ, i64_w, i32_w]
    rfl
  refine pure_ (i := 1) (N := some 29) (v := ?_) (a' := ?_) #[true, true, false, false, false, false, false, false, false] rfl rfl (by kernel_rfl) (fun _ _ _ h => h) (Or.inl ⟨by rfl, ?_⟩) ?_ ?_
  rotate_left
  · intro w'
    go_simp
    try with_reducible rfl
  rotate_left
  · simp only [Act.put, List.setIfInBounds_toArray, List.set_cons_zero, List.set_cons_succ, i64_w, i32_w]
    rfl
  refine pure_ (i := 2) (N := some 30) (v := ?_) (a' := ?_) #[true, true, true, false, false, false, false, false, false] rfl rfl (by kernel_rfl) (fun _ _ _ h => h) (Or.inl ⟨by rfl, ?_⟩) ?_ ?_
  rotate_left
  · intro w'
    go_simp
    try with_reducible rfl
  rotate_left
  · simp only [Act.put, List.setIfInBounds_toArray, List.set_cons_zero, List.set_cons_succ, i64_w, i32_w]
    rfl
  refine pure_ (i := 3) (N := some 31) (v := ?_) (a' := ?_) #[true, true, true, true, false, false, false, false, false] rfl rfl (by kernel_rfl) (fun _ _ _ h => h) (Or.inl ⟨by rfl, ?_⟩) ?_ ?_
  rotate_left
  · intro w'
    go_simp
    try with_reducible rfl
  rotate_left
  · simp only [Act.put, List.setIfInBounds_toArray, List.set_cons_zero, List.set_cons_succ, i64_w, i32_w]
    rfl
  refine pure_ (i := 4) (N := some 32) (v := ?_) (a' := ?_) #[true, true, true, true, true, false, false, false, false] rfl rfl (by kernel_rfl) (fun _ _ _ h => h) (Or.inl ⟨by rfl, ?_⟩) ?_ ?_
  rotate_left
  · intro w'
    go_simp
    try with_reducible rfl
  rotate_left
  · simp only [Act.put, List.setIfInBounds_toArray, List.set_cons_zero, List.set_cons_succ, i64_w, i32_w]
    rfl
  refine pure_ (i := 5) (N := some 33) (v := ?_) (a' := ?_) #[true, true, true, true, true, true, false, false, false] rfl rfl (by kernel_rfl) (fun _ _ _ h => h) (Or.inl ⟨by rfl, ?_⟩) ?_ ?_
  rotate_left
  · intro w'
    go_simp
    try with_reducible rfl
  rotate_left
  · simp only [Act.put, List.setIfInBounds_toArray, List.set_cons_zero, List.set_cons_succ, i64_w, i32_w]
    rfl
  refine pure_ (i := 6) (N := some 34) (v := ?_) (a' := ?_) #[true, true, true, true, true, true, true, false, false] rfl rfl (by kernel_rfl) (fun _ _ _ h => h) (Or.inl ⟨by rfl, ?_⟩) ?_ ?_
  rotate_left
  · intro w'
    go_simp
    try with_reducible rfl
  rotate_left
  · simp only [Act.put, List.setIfInBounds_toArray, List.set_cons_zero, List.set_cons_succ, i64_w, i32_w]
    rfl
  refine one_ (i := 7) (N := some 8) #[true, true, true, true, true, true, true, true, false] rfl rfl (by kernel_rfl) (by decide) (fun K hK => ?_)
  refine box_step (by rfl) (N := 8) rfl (cs := #[.int .i64 0, .int .i64 0]) (t := 109) ?_ ?_
  · first
      | (go_simp; done)
      | (go_simp; rfl)
  intro p8 hp8 w6 hb6 hB6
  have hlt := blk_lt hHeld.1
  have c0 : w6.cell? ⟨p8, 0, none⟩ = some (.int .i64 0) := blk_cell hb6 0
  have c1 : w6.cell? ⟨p8, 1, none⟩ = some (.int .i64 0) := blk_cell hb6 1
  have f0 : w6.frozen? ⟨p8, 0, none⟩ = false := blk_frozen hb6 0
  have f1 : w6.frozen? ⟨p8, 1, none⟩ = false := blk_frozen hb6 1
  have hpp : w.heap.size ≠ p8 := by omega
  have hwp : w.heap.size ≤ p8 := by omega
  clear hp8
  refine hK.out _ _ ⟨blk_below hHeld.1 hB6, bthen hHeld.2 hB6⟩ (fun hHeld => ?_)
  clear hK K
  refine norm_ (a' := ?_) ?_ ?_
  rotate_left
  · show Act.put _ (some 8) _ = _
    simp only [Act.put, List.setIfInBounds_toArray, List.set_cons_zero, List.set_cons_succ, i64_w, i32_w]
    rfl
  refine one_ (i := 8) (N := none) #[true, true, true, true, true, true, true, true, true] rfl rfl (by kernel_rfl) (by decide) (fun K hK => ?_)
  refine skip_ (w1 := (w6.setCell ⟨p8, 0, none⟩ (.int .i64 (wrap64 (n.tdiv g)))).setCell ⟨p8, 1, none⟩ (.int .i64 (wrap64 (d.tdiv g)))) (by rfl) rfl ?_ ?_
  · first
    | (go_simp; done)
    | (go_simp; rfl)
  refine hK.out _ _ ⟨blk_far (blk_far hHeld.1 (p := ⟨p8, 0, none⟩) hpp _) (p := ⟨p8, 1, none⟩) hpp _, (hHeld.2.setCell (p := ⟨p8, 0, none⟩) hwp _).setCell (p := ⟨p8, 1, none⟩) hwp _⟩ (fun hHeld => ?_)
  clear hK K
  refine norm_ (a' := ?_) ?_ ?_
  rotate_left
  · rfl
  refine done_ (by kernel_rfl) ?_
  have hb7 := blk_set (blk_set hb6 0 (.int .i64 (wrap64 (n.tdiv g)))) 1 (.int .i64 (wrap64 (d.tdiv g)))
  obtain ⟨hx7, hB7⟩ := hHeld
  obtain ⟨w7, hw7⟩ : ∃ w7, w7 = (w6.setCell ⟨p8, 0, none⟩ (.int .i64 (wrap64 (n.tdiv g)))).setCell ⟨p8, 1, none⟩ (.int .i64 (wrap64 (d.tdiv g))) := ⟨_, rfl⟩
  rw [← hw7] at hb7 hx7 hB7 ⊢
  rw [E1.out, E2.out] at hb7 ⊢
  clear hw7 c0 c1 f0 f1
  have c0 : w7.cell? ⟨p8, 0, none⟩ = some (.int .i64 x) := blk_cell hb7 0
  have c1 : w7.cell? ⟨p8, 1, none⟩ = some (.int .i64 y) := blk_cell hb7 1
  have d0 : w7.cell? ⟨w.heap.size, 0, none⟩ = some (.int .i64 0) := blk_cell hx7 0
  have df0 : w7.frozen? ⟨w.heap.size, 0, none⟩ = false := blk_frozen hx7 0
  have d1 : w7.cell? ⟨w.heap.size, 1, none⟩ = some (.int .i64 0) := blk_cell hx7 1
  have df1 : w7.frozen? ⟨w.heap.size, 1, none⟩ = false := blk_frozen hx7 1
  go_wp2_with fail
  have k7 := blk_set (blk_set hx7 0 (.int .i64 x)) 1 (.int .i64 y)
  have hB8 := (hB7.setCell (p := ⟨w.heap.size, 0, none⟩) (Nat.le_refl _) (.int .i64 x)).setCell (p := ⟨w.heap.size, 1, none⟩) (Nat.le_refl _) (.int .i64 y)
  obtain ⟨w8, hw8⟩ : ∃ w8, w8 = (w7.setCell ⟨w.heap.size, 0, none⟩ (.int .i64 x)).setCell ⟨w.heap.size, 1, none⟩ (.int .i64 y) := ⟨_, rfl⟩
  rw [← hw8] at k7 hB8 ⊢
  clear hw8
  have s0 : w8.cell? ⟨w.heap.size, 0, none⟩ = some (.int .i64 x) := blk_cell k7 0
  have s1 : w8.cell? ⟨w.heap.size, 1, none⟩ = some (.int .i64 y) := blk_cell k7 1
  refine bodyPost_ret (by simp [results, Try.results44, go_sem, s0, s1]; try rfl) rfl ?_
  exact ⟨rfl, hB8⟩
end Go.Proofs.Ytmnohhmnkmnikaa.RatPlain

/- The product of two fractions, walked. -/
set_option linter.unusedVariables false
set_option linter.unusedSimpArgs false
namespace Go.Proofs.Ytmnohhmnkmnikaa.RatPlain
open Go.RowKit Go.Proofs.YtmnohhmnkmnikaaW.PrintWords Go.Proofs.YtmnohhmnkmnikaaW.PrintLast Go.Proofs.Ytmnohhmnkmnikaa.Nats Go.Proofs.Ytmnohhmnkmnikaa.HeapKit Go.Proofs.Ytmnohhmnkmnikaa.PAdd

/-- The product, or none. -/
def mulR (an ad bn bd : Int) : Option (Int × Int) :=
  let g : Int := (Int.gcd an bd : Nat)
  let h : Int := (Int.gcd bn ad : Nat)
  let n := an.tdiv g * bn.tdiv h
  let d := bd.tdiv g * ad.tdiv h
  if I64 n ∧ I64 d then some (low n d) else none
/-- What is answered. -/
def told (ok : Prop) [Decidable ok] (r : Option (Int × Int)) : Int × Int × Int := if ok then (match r with | some p => (p.1, p.2, 0) | none => (0, 0, 2)) else (0, 0, 1)
theorem watched_I64 (x : Int) : I64 (watched x).1 := by unfold watched; split; assumption; decide
theorem watched_ok (x : Int) : (watched x).2 = decide (I64 x) := by unfold watched; split <;> simp [*]
theorem watched_fst {x : Int} (h : I64 x) : (watched x).1 = x := by simp [watched, h]
theorem watched_eta (x : Int) : watched x = ((watched x).1, (watched x).2) := rfl
/-- An answer: a fraction and what went wrong. -/
def ans (r : Int × Int × Int) : Ending := .returned (.tuple #[.agg #[.int .i64 r.1, .int .i64 r.2.1], .int .i64 r.2.2])

set_option maxRecDepth 100000 in
set_option maxHeartbeats 2000000 in
theorem mul_wrong {an ad bn bd : Int} (h1 : I64 an) (h2 : I64 ad) (h3 : I64 bn) (h4 : I64 bd) (hr : ¬ (Rt an ad ∧ Rt bn bd)) (w : World) :
    Calls Try.prog 62 #[.agg #[.int .i64 an, .int .i64 ad], .agg #[.int .i64 bn, .int .i64 bd]] w fun e w' => e = ans (0, 0, 1) ∧ Below w.heap.size w w' := by
  have hb := both_eq h1 h2 h3 h4 (k := big + 1) (by omega)
  rw [decide_eq_false hr] at hb
  go_enter Try.func62, Try.ntmps62
  go_wp2_with fail
  refine (ratio_both.calls (big + 1) an ad bn bd false _ hb).mono ?_
  rintro e w1 ⟨rfl, hb1⟩
  have hB := (b3_start w (.cells #[.int .i64 an, .int .i64 ad] 53) (.cells #[.int .i64 bn, .int .i64 bd] 53) (.cells #[.int .i64 0, .int .i64 0] 53)).step hb1
  clear hb1
  have hx_ := hB.b3
  have d_0 : w1.cell? ⟨w.heap.size + 1 + 1, 0, none⟩ = some (.int .i64 0) := blk_cell hx_ 0
  have df_0 : w1.frozen? ⟨w.heap.size + 1 + 1, 0, none⟩ = false := blk_frozen hx_ 0
  have d_1 : w1.cell? ⟨w.heap.size + 1 + 1, 1, none⟩ = some (.int .i64 0) := blk_cell hx_ 1
  have df_1 : w1.frozen? ⟨w.heap.size + 1 + 1, 1, none⟩ = false := blk_frozen hx_ 1
  go_wp2_with fail
  have k_ := (blk_set (blk_set hx_ 0 (.int .i64 0)) 1 (.int .i64 0))
  have hB_ := (Below.setCell (Below.setCell hB.be (p := ⟨w.heap.size + 1 + 1, 0, none⟩) ((by show w.heap.size ≤ w.heap.size + 1 + 1; omega)) (.int .i64 0)) (p := ⟨w.heap.size + 1 + 1, 1, none⟩) ((by show w.heap.size ≤ w.heap.size + 1 + 1; omega)) (.int .i64 0))
  obtain ⟨w_, hw_⟩ : ∃ w_, w_ = (World.setCell (World.setCell w1 ⟨w.heap.size + 1 + 1, 0, none⟩ (.int .i64 0)) ⟨w.heap.size + 1 + 1, 1, none⟩ (.int .i64 0)) := ⟨_, rfl⟩
  rw [← hw_] at k_ hB_
  try rw [← hw_]
  clear hw_
  have s_0 : w_.cell? ⟨w.heap.size + 1 + 1, 0, none⟩ = some (.int .i64 0) := blk_cell k_ 0
  have s_1 : w_.cell? ⟨w.heap.size + 1 + 1, 1, none⟩ = some (.int .i64 0) := blk_cell k_ 1
  refine bodyPost_ret (by simp [results, Try.results62, go_sem, s_0, s_1]; try rfl) rfl ?_
  exact ⟨rfl, hB_⟩

set_option maxRecDepth 100000 in
set_option maxHeartbeats 4000000 in
theorem mul_right {an ad bn bd : Int} (h1 : I64 an) (h2 : I64 ad) (h3 : I64 bn) (h4 : I64 bd) (ra : Rt an ad) (rb : Rt bn bd) (w : World) :
    Calls Try.prog 62 #[.agg #[.int .i64 an, .int .i64 ad], .agg #[.int .i64 bn, .int .i64 bd]] w fun e w' => e = ans (told True (mulR an ad bn bd)) ∧ Below w.heap.size w w' := by
  have hb := both_eq h1 h2 h3 h4 (k := big + 1) (by omega)
  rw [decide_eq_true (And.intro ra rb)] at hb
  have hs1 := shared_eq h1 h4 rb.1 (k := big + 1) (by omega)
  have hs2 := shared_eq h3 h2 ra.1 (k := big + 1) (by omega)
  obtain ⟨xa, hxa⟩ : ∃ x, an.tdiv (Int.gcd an bd : Nat) = x := ⟨_, rfl⟩
  obtain ⟨xb, hxb⟩ : ∃ x, bd.tdiv (Int.gcd an bd : Nat) = x := ⟨_, rfl⟩
  obtain ⟨ya, hya⟩ : ∃ x, bn.tdiv (Int.gcd bn ad : Nat) = x := ⟨_, rfl⟩
  obtain ⟨yb, hyb⟩ : ∃ x, ad.tdiv (Int.gcd bn ad : Nat) = x := ⟨_, rfl⟩
  rw [hxa, hxb] at hs1
  rw [hya, hyb] at hs2
  have hM : mulR an ad bn bd = if I64 (xa * ya) ∧ I64 (xb * yb) then some (low (xa * ya) (xb * yb)) else none := by
    unfold mulR
    simp only [hxa, hxb, hya, hyb]
  have i1 : I64 xa := by rw [← hxa]; exact h1.tdiv (gcd_pos rb.1)
  have i2 : I64 xb := by rw [← hxb]; exact h4.tdiv (gcd_pos rb.1)
  have i3 : I64 ya := by rw [← hya]; exact h3.tdiv (gcd_pos ra.1)
  have i4 : I64 yb := by rw [← hyb]; exact h2.tdiv (gcd_pos ra.1)
  have hpos : 0 < xb * yb := by
    rw [← hxb, ← hyb]
    exact Int.mul_pos (exact_pos rb.1 (dvd_right _ _) (gcd_pos rb.1)) (exact_pos ra.1 (dvd_right _ _) (gcd_pos ra.1))
  obtain ⟨M, hMM⟩ : ∃ M, mulR an ad bn bd = M := ⟨_, rfl⟩
  rw [hMM] at hM ⊢
  have HM := Lib.hid hM
  clear hM hMM hxa hxb hya hyb
  go_enter Try.func62, Try.ntmps62
  go_wp2_with fail
  refine (ratio_both.calls (big + 1) an ad bn bd true _ hb).mono ?_
  rintro e w1 ⟨rfl, hb1⟩
  have hB := (b3_start w (.cells #[.int .i64 an, .int .i64 ad] 53) (.cells #[.int .i64 bn, .int .i64 bd] 53) (.cells #[.int .i64 0, .int .i64 0] 53)).step hb1
  clear hb1
  go_wp2_with fail
  refine start_ (n := 14) (S := fun wx => B3 w wx (.cells #[.int .i64 an, .int .i64 ad] 53) (.cells #[.int .i64 bn, .int .i64 bd] 53) (.cells #[.int .i64 0, .int .i64 0] 53)) (ds := []) #[false, false, false, false, false, false, false, false, false, false, false, false, false, false] (by kernel_rfl) rfl rfl (hB.step (below_drew (Below.refl _ _))) (fun hHeld => ?_)
  refine pure_ (i := 0) (N := some 17) (v := ?_) (a' := ?_) #[true, false, false, false, false, false, false, false, false, false, false, false, false, false] rfl rfl (by kernel_rfl) (fun _ _ _ h => h) (Or.inl ⟨by rfl, ?_⟩) ?_ ?_
  rotate_left
  · intro w'
    go_simp
    try with_reducible rfl
  rotate_left
  · simp only [Act.put, List.setIfInBounds_toArray, List.set_cons_zero, List.set_cons_succ, i64_w, i32_w]
    rfl
  refine take_ (i := 1) (N := some 18) (v := ?_) (a' := ?_) #[true, true, false, false, false, false, false, false, false, false, false, false, false, false] rfl rfl (by kernel_rfl) (fun _ _ _ h => h) (Or.inl ⟨by rfl, ?_⟩) hHeld ?_ ?_
  rotate_left
  · rintro w' hh
    have s0 : w'.cell? ⟨w.heap.size, 0, none⟩ = some (.int .i64 an) := blk_cell hh.b1 0
    have s1 : w'.cell? ⟨w.heap.size, 1, none⟩ = some (.int .i64 ad) := blk_cell hh.b1 1
    have s2 : w'.cell? ⟨w.heap.size + 1, 0, none⟩ = some (.int .i64 bn) := blk_cell hh.b2 0
    have s3 : w'.cell? ⟨w.heap.size + 1, 1, none⟩ = some (.int .i64 bd) := blk_cell hh.b2 1
    go_simp
    with_reducible rfl
  rotate_left
  · simp only [Act.put, List.setIfInBounds_toArray, List.set_cons_zero, List.set_cons_succ, i64_w, i32_w]
    rfl
  refine pure_ (i := 2) (N := some 19) (v := ?_) (a' := ?_) #[true, true, true, false, false, false, false, false, false, false, false, false, false, false] rfl rfl (by kernel_rfl) (fun _ _ _ h => h) (Or.inl ⟨by rfl, ?_⟩) ?_ ?_
  rotate_left
  · intro w'
    go_simp
    try with_reducible rfl
  rotate_left
  · simp only [Act.put, List.setIfInBounds_toArray, List.set_cons_zero, List.set_cons_succ, i64_w, i32_w]
    rfl
  refine take_ (i := 3) (N := some 20) (v := ?_) (a' := ?_) #[true, true, true, true, false, false, false, false, false, false, false, false, false, false] rfl rfl (by kernel_rfl) (fun _ _ _ h => h) (Or.inl ⟨by rfl, ?_⟩) hHeld ?_ ?_
  rotate_left
  · rintro w' hh
    have s0 : w'.cell? ⟨w.heap.size, 0, none⟩ = some (.int .i64 an) := blk_cell hh.b1 0
    have s1 : w'.cell? ⟨w.heap.size, 1, none⟩ = some (.int .i64 ad) := blk_cell hh.b1 1
    have s2 : w'.cell? ⟨w.heap.size + 1, 0, none⟩ = some (.int .i64 bn) := blk_cell hh.b2 0
    have s3 : w'.cell? ⟨w.heap.size + 1, 1, none⟩ = some (.int .i64 bd) := blk_cell hh.b2 1
    go_simp
    with_reducible rfl
  rotate_left
  · simp only [Act.put, List.setIfInBounds_toArray, List.set_cons_zero, List.set_cons_succ, i64_w, i32_w]
    rfl
  refine pure_ (i := 5) (N := some 22) (v := ?_) (a' := ?_) #[true, true, true, true, false, true, false, false, false, false, false, false, false, false] rfl rfl (by kernel_rfl) (fun _ _ _ h => h) (Or.inl ⟨by rfl, ?_⟩) ?_ ?_
  rotate_left
  · intro w'
    go_simp
    try with_reducible rfl
  rotate_left
  · simp only [Act.put, List.setIfInBounds_toArray, List.set_cons_zero, List.set_cons_succ, i64_w, i32_w]
    rfl
  refine take_ (i := 6) (N := some 23) (v := ?_) (a' := ?_) #[true, true, true, true, false, true, true, false, false, false, false, false, false, false] rfl rfl (by kernel_rfl) (fun _ _ _ h => h) (Or.inl ⟨by rfl, ?_⟩) hHeld ?_ ?_
  rotate_left
  · rintro w' hh
    have s0 : w'.cell? ⟨w.heap.size, 0, none⟩ = some (.int .i64 an) := blk_cell hh.b1 0
    have s1 : w'.cell? ⟨w.heap.size, 1, none⟩ = some (.int .i64 ad) := blk_cell hh.b1 1
    have s2 : w'.cell? ⟨w.heap.size + 1, 0, none⟩ = some (.int .i64 bn) := blk_cell hh.b2 0
    have s3 : w'.cell? ⟨w.heap.size + 1, 1, none⟩ = some (.int .i64 bd) := blk_cell hh.b2 1
    go_simp
    with_reducible rfl
  rotate_left
  · simp only [Act.put, List.setIfInBounds_toArray, List.set_cons_zero, List.set_cons_succ, i64_w, i32_w]
    rfl
  refine pure_ (i := 7) (N := some 24) (v := ?_) (a' := ?_) #[true, true, true, true, false, true, true, true, false, false, false, false, false, false] rfl rfl (by kernel_rfl) (fun _ _ _ h => h) (Or.inl ⟨by rfl, ?_⟩) ?_ ?_
  rotate_left
  · intro w'
    go_simp
    try with_reducible rfl
  rotate_left
  · simp only [Act.put, List.setIfInBounds_toArray, List.set_cons_zero, List.set_cons_succ, i64_w, i32_w]
    rfl
  refine take_ (i := 8) (N := some 25) (v := ?_) (a' := ?_) #[true, true, true, true, false, true, true, true, true, false, false, false, false, false] rfl rfl (by kernel_rfl) (fun _ _ _ h => h) (Or.inl ⟨by rfl, ?_⟩) hHeld ?_ ?_
  rotate_left
  · rintro w' hh
    have s0 : w'.cell? ⟨w.heap.size, 0, none⟩ = some (.int .i64 an) := blk_cell hh.b1 0
    have s1 : w'.cell? ⟨w.heap.size, 1, none⟩ = some (.int .i64 ad) := blk_cell hh.b1 1
    have s2 : w'.cell? ⟨w.heap.size + 1, 0, none⟩ = some (.int .i64 bn) := blk_cell hh.b2 0
    have s3 : w'.cell? ⟨w.heap.size + 1, 1, none⟩ = some (.int .i64 bd) := blk_cell hh.b2 1
    go_simp
    with_reducible rfl
  rotate_left
  · simp only [Act.put, List.setIfInBounds_toArray, List.set_cons_zero, List.set_cons_succ, i64_w, i32_w]
    rfl
  refine join_ (σ := Nat × Nat) 2 #[true, true, true, true, true, true, true, true, true, true, true, true, false, false] (fun s => [(21, .agg #[.int .i64 xa, .int .i64 xb]), (26, .agg #[.int .i64 ya, .int .i64 yb]), (6, .pointer (some ⟨s.1, 0, none⟩)), (7, .pointer (some ⟨s.2, 0, none⟩))]) (fun s wx => (B3 w wx (.cells #[.int .i64 an, .int .i64 ad] 53) (.cells #[.int .i64 bn, .int .i64 bd] 53) (.cells #[.int .i64 0, .int .i64 0] 53)) ∧ wx.heap[s.1]? = some (.cells #[.int .i64 0, .int .i64 0] 109 (0, 0)) ∧ w.heap.size + 3 ≤ s.1 ∧ wx.heap[s.2]? = some (.cells #[.int .i64 0, .int .i64 0] 109 (0, 0)) ∧ w.heap.size + 3 ≤ s.2 ∧ s.1 ≠ s.2 ∧ True) ?_ ?hall
  case hall =>
    intro hj_4_9_10_11
    refine join_ (σ := Nat × Nat) 3 #[true, true, true, true, true, true, true, true, true, true, true, false, false, false] (fun s => [(21, .agg #[.int .i64 xa, .int .i64 xb]), (26, .agg #[.int .i64 ya, .int .i64 yb]), (6, .pointer (some ⟨s.1, 0, none⟩))]) (fun s wx => (B3 w wx (.cells #[.int .i64 an, .int .i64 ad] 53) (.cells #[.int .i64 bn, .int .i64 bd] 53) (.cells #[.int .i64 0, .int .i64 0] 53)) ∧ wx.heap[s.1]? = some (.cells #[.int .i64 0, .int .i64 0] 109 (0, 0)) ∧ w.heap.size + 3 ≤ s.1 ∧ True) ?c_4_9_10 ?_
    case c_4_9_10 =>
      rintro ⟨p10, p11⟩ wN hF
      obtain ⟨hHeld, hb10, hl10, _⟩ := hF
      replace hb10 : wN.heap[p10]? = some (.cells #[.int .i64 0, .int .i64 0] 109 (0, 0)) := hb10
      replace hl10 : w.heap.size + 3 ≤ p10 := hl10
      refine norm_ (a' := ?_) ?_ ?_
      rotate_left
      · simp only [putAll, Act.put, List.setIfInBounds_toArray, List.set_cons_zero, List.set_cons_succ, i64_w, i32_w]
        rfl
      refine one_ (i := 11) (N := some 7) #[true, true, true, true, true, true, true, true, true, true, true, true, false, false] rfl rfl (by kernel_rfl) (by decide) (fun K hK => ?_)
      refine box_step (by rfl) (N := 7) rfl (cs := #[.int .i64 0, .int .i64 0]) (t := 109) ?_ ?_
      · first
          | (go_simp; done)
          | (go_simp; rfl)
      intro p11 hp_ w_ hbox_ hB_
      have hS_ := (hHeld.step hB_)
      have hz_ := hHeld.size
      have hlt10 := blk_lt hb10
      refine hK.out _ _ hS_ (fun hHeld_ => ?_)
      clear hK K
      exact norm_ (by rfl) (hj_4_9_10_11 (p10, p11) w_ ⟨hS_, blk_below hb10 hB_, hl10, hbox_, by show w.heap.size + 3 ≤ p11; omega, by show p10 ≠ p11; omega, trivial⟩)
    intro hj_4_9_10
    refine join_ (σ := Nat × Nat) 3 #[true, true, true, true, true, true, true, true, true, true, false, true, false, false] (fun s => [(21, .agg #[.int .i64 xa, .int .i64 xb]), (26, .agg #[.int .i64 ya, .int .i64 yb]), (7, .pointer (some ⟨s.2, 0, none⟩))]) (fun s wx => (B3 w wx (.cells #[.int .i64 an, .int .i64 ad] 53) (.cells #[.int .i64 bn, .int .i64 bd] 53) (.cells #[.int .i64 0, .int .i64 0] 53)) ∧ wx.heap[s.2]? = some (.cells #[.int .i64 0, .int .i64 0] 109 (0, 0)) ∧ w.heap.size + 3 ≤ s.2 ∧ True) ?c_4_9_11 ?_
    case c_4_9_11 =>
      rintro ⟨p10, p11⟩ wN hF
      obtain ⟨hHeld, hb11, hl11, _⟩ := hF
      replace hb11 : wN.heap[p11]? = some (.cells #[.int .i64 0, .int .i64 0] 109 (0, 0)) := hb11
      replace hl11 : w.heap.size + 3 ≤ p11 := hl11
      refine norm_ (a' := ?_) ?_ ?_
      rotate_left
      · simp only [putAll, Act.put, List.setIfInBounds_toArray, List.set_cons_zero, List.set_cons_succ, i64_w, i32_w]
        rfl
      refine one_ (i := 10) (N := some 6) #[true, true, true, true, true, true, true, true, true, true, true, true, false, false] rfl rfl (by kernel_rfl) (by decide) (fun K hK => ?_)
      refine box_step (by rfl) (N := 6) rfl (cs := #[.int .i64 0, .int .i64 0]) (t := 109) ?_ ?_
      · first
          | (go_simp; done)
          | (go_simp; rfl)
      intro p10 hp_ w_ hbox_ hB_
      have hS_ := (hHeld.step hB_)
      have hz_ := hHeld.size
      have hlt11 := blk_lt hb11
      refine hK.out _ _ hS_ (fun hHeld_ => ?_)
      clear hK K
      exact norm_ (by rfl) (hj_4_9_10_11 (p10, p11) w_ ⟨hS_, hbox_, by show w.heap.size + 3 ≤ p10; omega, blk_below hb11 hB_, hl11, by show p10 ≠ p11; omega, trivial⟩)
    intro hj_4_9_11
    refine join_ (σ := Nat × Nat) 3 #[true, true, true, true, true, true, true, true, true, false, true, true, false, false] (fun s => [(21, .agg #[.int .i64 xa, .int .i64 xb]), (6, .pointer (some ⟨s.1, 0, none⟩)), (7, .pointer (some ⟨s.2, 0, none⟩))]) (fun s wx => (B3 w wx (.cells #[.int .i64 an, .int .i64 ad] 53) (.cells #[.int .i64 bn, .int .i64 bd] 53) (.cells #[.int .i64 0, .int .i64 0] 53)) ∧ wx.heap[s.1]? = some (.cells #[.int .i64 0, .int .i64 0] 109 (0, 0)) ∧ w.heap.size + 3 ≤ s.1 ∧ wx.heap[s.2]? = some (.cells #[.int .i64 0, .int .i64 0] 109 (0, 0)) ∧ w.heap.size + 3 ≤ s.2 ∧ s.1 ≠ s.2 ∧ True) ?c_4_10_11 ?_
    case c_4_10_11 =>
      rintro ⟨p10, p11⟩ wN hF
      obtain ⟨hHeld, hb10, hl10, hb11, hl11, hn10_11, _⟩ := hF
      replace hb10 : wN.heap[p10]? = some (.cells #[.int .i64 0, .int .i64 0] 109 (0, 0)) := hb10
      replace hl10 : w.heap.size + 3 ≤ p10 := hl10
      replace hb11 : wN.heap[p11]? = some (.cells #[.int .i64 0, .int .i64 0] 109 (0, 0)) := hb11
      replace hl11 : w.heap.size + 3 ≤ p11 := hl11
      replace hn10_11 : p10 ≠ p11 := hn10_11
      refine norm_ (a' := ?_) ?_ ?_
      rotate_left
      · simp only [putAll, Act.put, List.setIfInBounds_toArray, List.set_cons_zero, List.set_cons_succ, i64_w, i32_w]
        rfl
      refine one_ (i := 9) (N := some 26) #[true, true, true, true, true, true, true, true, true, true, true, true, false, false] rfl rfl (by kernel_rfl) (by decide) (fun K hK => ?_)
      refine goes_ Try.func41 (by kernel_rfl) rfl #[.int .i64 bn, .int .i64 ad] (by rfl) rfl rfl (by (try simp only [List.map_toArray, List.map_cons, List.map_nil]); first | done | rfl) ?_
      refine (ratio_shared.calls (big + 1) bn ad ya yb _ hs2).mono ?_
      rintro e_ w_ ⟨rfl, hb_⟩
      refine ⟨_, rfl, ?_⟩
      have hS_ := (hHeld.step hb_)
      refine hK.out _ _ hS_ (fun hHeld_ => ?_)
      clear hK K
      exact norm_ (by rfl) (hj_4_9_10_11 (p10, p11) w_ ⟨hS_, blk_below hb10 hb_, hl10, blk_below hb11 hb_, hl11, hn10_11, trivial⟩)
    intro hj_4_10_11
    refine join_ (σ := Nat × Nat) 4 #[true, true, true, true, true, true, true, true, true, true, false, false, false, false] (fun s => [(21, .agg #[.int .i64 xa, .int .i64 xb]), (26, .agg #[.int .i64 ya, .int .i64 yb])]) (fun s wx => (B3 w wx (.cells #[.int .i64 an, .int .i64 ad] 53) (.cells #[.int .i64 bn, .int .i64 bd] 53) (.cells #[.int .i64 0, .int .i64 0] 53)) ∧ True) ?c_4_9 ?_
    case c_4_9 =>
      rintro ⟨p10, p11⟩ wN hF
      obtain ⟨hHeld, _⟩ := hF
      refine norm_ (a' := ?_) ?_ ?_
      rotate_left
      · simp only [putAll, Act.put, List.setIfInBounds_toArray, List.set_cons_zero, List.set_cons_succ, i64_w, i32_w]
        rfl
      refine two_ (i := 10) (j := 11) (Ni := some 6) (Nj := some 7) #[true, true, true, true, true, true, true, true, true, true, true, false, false, false] #[true, true, true, true, true, true, true, true, true, true, false, true, false, false] rfl rfl rfl rfl (by kernel_rfl) (by decide) (by decide) (fun K hK => ?_) (fun K hK => ?_)
      · refine box_step (by rfl) (N := 6) rfl (cs := #[.int .i64 0, .int .i64 0]) (t := 109) ?_ ?_
        · first
            | (go_simp; done)
            | (go_simp; rfl)
        intro p10 hp_ w_ hbox_ hB_
        have hS_ := (hHeld.step hB_)
        have hz_ := hHeld.size
        refine hK.out _ _ hS_ (fun hHeld_ => ?_)
        clear hK K
        exact norm_ (by rfl) (hj_4_9_10 (p10, 0) w_ ⟨hS_, hbox_, by show w.heap.size + 3 ≤ p10; omega, trivial⟩)
      · refine box_step (by rfl) (N := 7) rfl (cs := #[.int .i64 0, .int .i64 0]) (t := 109) ?_ ?_
        · first
            | (go_simp; done)
            | (go_simp; rfl)
        intro p11 hp_ w_ hbox_ hB_
        have hS_ := (hHeld.step hB_)
        have hz_ := hHeld.size
        refine hK.out _ _ hS_ (fun hHeld_ => ?_)
        clear hK K
        exact norm_ (by rfl) (hj_4_9_11 (0, p11) w_ ⟨hS_, hbox_, by show w.heap.size + 3 ≤ p11; omega, trivial⟩)
    intro hj_4_9
    refine join_ (σ := Nat × Nat) 4 #[true, true, true, true, true, true, true, true, true, false, true, false, false, false] (fun s => [(21, .agg #[.int .i64 xa, .int .i64 xb]), (6, .pointer (some ⟨s.1, 0, none⟩))]) (fun s wx => (B3 w wx (.cells #[.int .i64 an, .int .i64 ad] 53) (.cells #[.int .i64 bn, .int .i64 bd] 53) (.cells #[.int .i64 0, .int .i64 0] 53)) ∧ wx.heap[s.1]? = some (.cells #[.int .i64 0, .int .i64 0] 109 (0, 0)) ∧ w.heap.size + 3 ≤ s.1 ∧ True) ?c_4_10 ?_
    case c_4_10 =>
      rintro ⟨p10, p11⟩ wN hF
      obtain ⟨hHeld, hb10, hl10, _⟩ := hF
      replace hb10 : wN.heap[p10]? = some (.cells #[.int .i64 0, .int .i64 0] 109 (0, 0)) := hb10
      replace hl10 : w.heap.size + 3 ≤ p10 := hl10
      refine norm_ (a' := ?_) ?_ ?_
      rotate_left
      · simp only [putAll, Act.put, List.setIfInBounds_toArray, List.set_cons_zero, List.set_cons_succ, i64_w, i32_w]
        rfl
      refine two_ (i := 9) (j := 11) (Ni := some 26) (Nj := some 7) #[true, true, true, true, true, true, true, true, true, true, true, false, false, false] #[true, true, true, true, true, true, true, true, true, false, true, true, false, false] rfl rfl rfl rfl (by kernel_rfl) (by decide) (by decide) (fun K hK => ?_) (fun K hK => ?_)
      · refine goes_ Try.func41 (by kernel_rfl) rfl #[.int .i64 bn, .int .i64 ad] (by rfl) rfl rfl (by (try simp only [List.map_toArray, List.map_cons, List.map_nil]); first | done | rfl) ?_
        refine (ratio_shared.calls (big + 1) bn ad ya yb _ hs2).mono ?_
        rintro e_ w_ ⟨rfl, hb_⟩
        refine ⟨_, rfl, ?_⟩
        have hS_ := (hHeld.step hb_)
        refine hK.out _ _ hS_ (fun hHeld_ => ?_)
        clear hK K
        exact norm_ (by rfl) (hj_4_9_10 (p10, 0) w_ ⟨hS_, blk_below hb10 hb_, hl10, trivial⟩)
      · refine box_step (by rfl) (N := 7) rfl (cs := #[.int .i64 0, .int .i64 0]) (t := 109) ?_ ?_
        · first
            | (go_simp; done)
            | (go_simp; rfl)
        intro p11 hp_ w_ hbox_ hB_
        have hS_ := (hHeld.step hB_)
        have hz_ := hHeld.size
        have hlt10 := blk_lt hb10
        refine hK.out _ _ hS_ (fun hHeld_ => ?_)
        clear hK K
        exact norm_ (by rfl) (hj_4_10_11 (p10, p11) w_ ⟨hS_, blk_below hb10 hB_, hl10, hbox_, by show w.heap.size + 3 ≤ p11; omega, by show p10 ≠ p11; omega, trivial⟩)
    intro hj_4_10
    refine join_ (σ := Nat × Nat) 4 #[true, true, true, true, true, true, true, true, true, false, false, true, false, false] (fun s => [(21, .agg #[.int .i64 xa, .int .i64 xb]), (7, .pointer (some ⟨s.2, 0, none⟩))]) (fun s wx => (B3 w wx (.cells #[.int .i64 an, .int .i64 ad] 53) (.cells #[.int .i64 bn, .int .i64 bd] 53) (.cells #[.int .i64 0, .int .i64 0] 53)) ∧ wx.heap[s.2]? = some (.cells #[.int .i64 0, .int .i64 0] 109 (0, 0)) ∧ w.heap.size + 3 ≤ s.2 ∧ True) ?c_4_11 ?_
    case c_4_11 =>
      rintro ⟨p10, p11⟩ wN hF
      obtain ⟨hHeld, hb11, hl11, _⟩ := hF
      replace hb11 : wN.heap[p11]? = some (.cells #[.int .i64 0, .int .i64 0] 109 (0, 0)) := hb11
      replace hl11 : w.heap.size + 3 ≤ p11 := hl11
      refine norm_ (a' := ?_) ?_ ?_
      rotate_left
      · simp only [putAll, Act.put, List.setIfInBounds_toArray, List.set_cons_zero, List.set_cons_succ, i64_w, i32_w]
        rfl
      refine two_ (i := 9) (j := 10) (Ni := some 26) (Nj := some 6) #[true, true, true, true, true, true, true, true, true, true, false, true, false, false] #[true, true, true, true, true, true, true, true, true, false, true, true, false, false] rfl rfl rfl rfl (by kernel_rfl) (by decide) (by decide) (fun K hK => ?_) (fun K hK => ?_)
      · refine goes_ Try.func41 (by kernel_rfl) rfl #[.int .i64 bn, .int .i64 ad] (by rfl) rfl rfl (by (try simp only [List.map_toArray, List.map_cons, List.map_nil]); first | done | rfl) ?_
        refine (ratio_shared.calls (big + 1) bn ad ya yb _ hs2).mono ?_
        rintro e_ w_ ⟨rfl, hb_⟩
        refine ⟨_, rfl, ?_⟩
        have hS_ := (hHeld.step hb_)
        refine hK.out _ _ hS_ (fun hHeld_ => ?_)
        clear hK K
        exact norm_ (by rfl) (hj_4_9_11 (0, p11) w_ ⟨hS_, blk_below hb11 hb_, hl11, trivial⟩)
      · refine box_step (by rfl) (N := 6) rfl (cs := #[.int .i64 0, .int .i64 0]) (t := 109) ?_ ?_
        · first
            | (go_simp; done)
            | (go_simp; rfl)
        intro p10 hp_ w_ hbox_ hB_
        have hS_ := (hHeld.step hB_)
        have hz_ := hHeld.size
        have hlt11 := blk_lt hb11
        refine hK.out _ _ hS_ (fun hHeld_ => ?_)
        clear hK K
        exact norm_ (by rfl) (hj_4_10_11 (p10, p11) w_ ⟨hS_, hbox_, by show w.heap.size + 3 ≤ p10; omega, blk_below hb11 hB_, hl11, by show p10 ≠ p11; omega, trivial⟩)
    intro hj_4_11
    refine join_ (σ := Nat × Nat) 4 #[true, true, true, true, false, true, true, true, true, false, true, true, false, false] (fun s => [(6, .pointer (some ⟨s.1, 0, none⟩)), (7, .pointer (some ⟨s.2, 0, none⟩))]) (fun s wx => (B3 w wx (.cells #[.int .i64 an, .int .i64 ad] 53) (.cells #[.int .i64 bn, .int .i64 bd] 53) (.cells #[.int .i64 0, .int .i64 0] 53)) ∧ wx.heap[s.1]? = some (.cells #[.int .i64 0, .int .i64 0] 109 (0, 0)) ∧ w.heap.size + 3 ≤ s.1 ∧ wx.heap[s.2]? = some (.cells #[.int .i64 0, .int .i64 0] 109 (0, 0)) ∧ w.heap.size + 3 ≤ s.2 ∧ s.1 ≠ s.2 ∧ True) ?c_10_11 ?_
    case c_10_11 =>
      rintro ⟨p10, p11⟩ wN hF
      obtain ⟨hHeld, hb10, hl10, hb11, hl11, hn10_11, _⟩ := hF
      replace hb10 : wN.heap[p10]? = some (.cells #[.int .i64 0, .int .i64 0] 109 (0, 0)) := hb10
      replace hl10 : w.heap.size + 3 ≤ p10 := hl10
      replace hb11 : wN.heap[p11]? = some (.cells #[.int .i64 0, .int .i64 0] 109 (0, 0)) := hb11
      replace hl11 : w.heap.size + 3 ≤ p11 := hl11
      replace hn10_11 : p10 ≠ p11 := hn10_11
      refine norm_ (a' := ?_) ?_ ?_
      rotate_left
      · simp only [putAll, Act.put, List.setIfInBounds_toArray, List.set_cons_zero, List.set_cons_succ, i64_w, i32_w]
        rfl
      refine one_ (i := 4) (N := some 21) #[true, true, true, true, true, true, true, true, true, false, true, true, false, false] rfl rfl (by kernel_rfl) (by decide) (fun K hK => ?_)
      refine goes_ Try.func41 (by kernel_rfl) rfl #[.int .i64 an, .int .i64 bd] (by rfl) rfl rfl (by (try simp only [List.map_toArray, List.map_cons, List.map_nil]); first | done | rfl) ?_
      refine (ratio_shared.calls (big + 1) an bd xa xb _ hs1).mono ?_
      rintro e_ w_ ⟨rfl, hb_⟩
      refine ⟨_, rfl, ?_⟩
      have hS_ := (hHeld.step hb_)
      refine hK.out _ _ hS_ (fun hHeld_ => ?_)
      clear hK K
      exact norm_ (by rfl) (hj_4_10_11 (p10, p11) w_ ⟨hS_, blk_below hb10 hb_, hl10, blk_below hb11 hb_, hl11, hn10_11, trivial⟩)
    intro hj_10_11
    refine join_ (σ := Nat × Nat) 5 #[true, true, true, true, true, true, true, true, true, false, false, false, false, false] (fun s => [(21, .agg #[.int .i64 xa, .int .i64 xb])]) (fun s wx => (B3 w wx (.cells #[.int .i64 an, .int .i64 ad] 53) (.cells #[.int .i64 bn, .int .i64 bd] 53) (.cells #[.int .i64 0, .int .i64 0] 53)) ∧ True) ?c_4 ?_
    case c_4 =>
      rintro ⟨p10, p11⟩ wN hF
      obtain ⟨hHeld, _⟩ := hF
      refine norm_ (a' := ?_) ?_ ?_
      rotate_left
      · simp only [putAll, Act.put, List.setIfInBounds_toArray, List.set_cons_zero, List.set_cons_succ, i64_w, i32_w]
        rfl
      refine three_ (i := 9) (j := 10) (k := 11) (Ni := some 26) (Nj := some 6) (Nk := some 7) #[true, true, true, true, true, true, true, true, true, true, false, false, false, false] #[true, true, true, true, true, true, true, true, true, false, true, false, false, false] #[true, true, true, true, true, true, true, true, true, false, false, true, false, false] rfl rfl rfl rfl rfl rfl (by kernel_rfl) (by decide) (by decide) (by decide) (fun K hK => ?_) (fun K hK => ?_) (fun K hK => ?_)
      · refine goes_ Try.func41 (by kernel_rfl) rfl #[.int .i64 bn, .int .i64 ad] (by rfl) rfl rfl (by (try simp only [List.map_toArray, List.map_cons, List.map_nil]); first | done | rfl) ?_
        refine (ratio_shared.calls (big + 1) bn ad ya yb _ hs2).mono ?_
        rintro e_ w_ ⟨rfl, hb_⟩
        refine ⟨_, rfl, ?_⟩
        have hS_ := (hHeld.step hb_)
        refine hK.out _ _ hS_ (fun hHeld_ => ?_)
        clear hK K
        exact norm_ (by rfl) (hj_4_9 (0, 0) w_ ⟨hS_, trivial⟩)
      · refine box_step (by rfl) (N := 6) rfl (cs := #[.int .i64 0, .int .i64 0]) (t := 109) ?_ ?_
        · first
            | (go_simp; done)
            | (go_simp; rfl)
        intro p10 hp_ w_ hbox_ hB_
        have hS_ := (hHeld.step hB_)
        have hz_ := hHeld.size
        refine hK.out _ _ hS_ (fun hHeld_ => ?_)
        clear hK K
        exact norm_ (by rfl) (hj_4_10 (p10, 0) w_ ⟨hS_, hbox_, by show w.heap.size + 3 ≤ p10; omega, trivial⟩)
      · refine box_step (by rfl) (N := 7) rfl (cs := #[.int .i64 0, .int .i64 0]) (t := 109) ?_ ?_
        · first
            | (go_simp; done)
            | (go_simp; rfl)
        intro p11 hp_ w_ hbox_ hB_
        have hS_ := (hHeld.step hB_)
        have hz_ := hHeld.size
        refine hK.out _ _ hS_ (fun hHeld_ => ?_)
        clear hK K
        exact norm_ (by rfl) (hj_4_11 (0, p11) w_ ⟨hS_, hbox_, by show w.heap.size + 3 ≤ p11; omega, trivial⟩)
    intro hj_4
    refine join_ (σ := Nat × Nat) 5 #[true, true, true, true, false, true, true, true, true, false, true, false, false, false] (fun s => [(6, .pointer (some ⟨s.1, 0, none⟩))]) (fun s wx => (B3 w wx (.cells #[.int .i64 an, .int .i64 ad] 53) (.cells #[.int .i64 bn, .int .i64 bd] 53) (.cells #[.int .i64 0, .int .i64 0] 53)) ∧ wx.heap[s.1]? = some (.cells #[.int .i64 0, .int .i64 0] 109 (0, 0)) ∧ w.heap.size + 3 ≤ s.1 ∧ True) ?c_10 ?_
    case c_10 =>
      rintro ⟨p10, p11⟩ wN hF
      obtain ⟨hHeld, hb10, hl10, _⟩ := hF
      replace hb10 : wN.heap[p10]? = some (.cells #[.int .i64 0, .int .i64 0] 109 (0, 0)) := hb10
      replace hl10 : w.heap.size + 3 ≤ p10 := hl10
      refine norm_ (a' := ?_) ?_ ?_
      rotate_left
      · simp only [putAll, Act.put, List.setIfInBounds_toArray, List.set_cons_zero, List.set_cons_succ, i64_w, i32_w]
        rfl
      refine two_ (i := 4) (j := 11) (Ni := some 21) (Nj := some 7) #[true, true, true, true, true, true, true, true, true, false, true, false, false, false] #[true, true, true, true, false, true, true, true, true, false, true, true, false, false] rfl rfl rfl rfl (by kernel_rfl) (by decide) (by decide) (fun K hK => ?_) (fun K hK => ?_)
      · refine goes_ Try.func41 (by kernel_rfl) rfl #[.int .i64 an, .int .i64 bd] (by rfl) rfl rfl (by (try simp only [List.map_toArray, List.map_cons, List.map_nil]); first | done | rfl) ?_
        refine (ratio_shared.calls (big + 1) an bd xa xb _ hs1).mono ?_
        rintro e_ w_ ⟨rfl, hb_⟩
        refine ⟨_, rfl, ?_⟩
        have hS_ := (hHeld.step hb_)
        refine hK.out _ _ hS_ (fun hHeld_ => ?_)
        clear hK K
        exact norm_ (by rfl) (hj_4_10 (p10, 0) w_ ⟨hS_, blk_below hb10 hb_, hl10, trivial⟩)
      · refine box_step (by rfl) (N := 7) rfl (cs := #[.int .i64 0, .int .i64 0]) (t := 109) ?_ ?_
        · first
            | (go_simp; done)
            | (go_simp; rfl)
        intro p11 hp_ w_ hbox_ hB_
        have hS_ := (hHeld.step hB_)
        have hz_ := hHeld.size
        have hlt10 := blk_lt hb10
        refine hK.out _ _ hS_ (fun hHeld_ => ?_)
        clear hK K
        exact norm_ (by rfl) (hj_10_11 (p10, p11) w_ ⟨hS_, blk_below hb10 hB_, hl10, hbox_, by show w.heap.size + 3 ≤ p11; omega, by show p10 ≠ p11; omega, trivial⟩)
    intro hj_10
    refine join_ (σ := Nat × Nat) 5 #[true, true, true, true, false, true, true, true, true, false, false, true, false, false] (fun s => [(7, .pointer (some ⟨s.2, 0, none⟩))]) (fun s wx => (B3 w wx (.cells #[.int .i64 an, .int .i64 ad] 53) (.cells #[.int .i64 bn, .int .i64 bd] 53) (.cells #[.int .i64 0, .int .i64 0] 53)) ∧ wx.heap[s.2]? = some (.cells #[.int .i64 0, .int .i64 0] 109 (0, 0)) ∧ w.heap.size + 3 ≤ s.2 ∧ True) ?c_11 ?_
    case c_11 =>
      rintro ⟨p10, p11⟩ wN hF
      obtain ⟨hHeld, hb11, hl11, _⟩ := hF
      replace hb11 : wN.heap[p11]? = some (.cells #[.int .i64 0, .int .i64 0] 109 (0, 0)) := hb11
      replace hl11 : w.heap.size + 3 ≤ p11 := hl11
      refine norm_ (a' := ?_) ?_ ?_
      rotate_left
      · simp only [putAll, Act.put, List.setIfInBounds_toArray, List.set_cons_zero, List.set_cons_succ, i64_w, i32_w]
        rfl
      refine two_ (i := 4) (j := 10) (Ni := some 21) (Nj := some 6) #[true, true, true, true, true, true, true, true, true, false, false, true, false, false] #[true, true, true, true, false, true, true, true, true, false, true, true, false, false] rfl rfl rfl rfl (by kernel_rfl) (by decide) (by decide) (fun K hK => ?_) (fun K hK => ?_)
      · refine goes_ Try.func41 (by kernel_rfl) rfl #[.int .i64 an, .int .i64 bd] (by rfl) rfl rfl (by (try simp only [List.map_toArray, List.map_cons, List.map_nil]); first | done | rfl) ?_
        refine (ratio_shared.calls (big + 1) an bd xa xb _ hs1).mono ?_
        rintro e_ w_ ⟨rfl, hb_⟩
        refine ⟨_, rfl, ?_⟩
        have hS_ := (hHeld.step hb_)
        refine hK.out _ _ hS_ (fun hHeld_ => ?_)
        clear hK K
        exact norm_ (by rfl) (hj_4_11 (0, p11) w_ ⟨hS_, blk_below hb11 hb_, hl11, trivial⟩)
      · refine box_step (by rfl) (N := 6) rfl (cs := #[.int .i64 0, .int .i64 0]) (t := 109) ?_ ?_
        · first
            | (go_simp; done)
            | (go_simp; rfl)
        intro p10 hp_ w_ hbox_ hB_
        have hS_ := (hHeld.step hB_)
        have hz_ := hHeld.size
        have hlt11 := blk_lt hb11
        refine hK.out _ _ hS_ (fun hHeld_ => ?_)
        clear hK K
        exact norm_ (by rfl) (hj_10_11 (p10, p11) w_ ⟨hS_, hbox_, by show w.heap.size + 3 ≤ p10; omega, blk_below hb11 hB_, hl11, by show p10 ≠ p11; omega, trivial⟩)
    intro hj_11
    refine three_ (i := 4) (j := 10) (k := 11) (Ni := some 21) (Nj := some 6) (Nk := some 7) #[true, true, true, true, true, true, true, true, true, false, false, false, false, false] #[true, true, true, true, false, true, true, true, true, false, true, false, false, false] #[true, true, true, true, false, true, true, true, true, false, false, true, false, false] rfl rfl rfl rfl rfl rfl (by kernel_rfl) (by decide) (by decide) (by decide) (fun K hK => ?_) (fun K hK => ?_) (fun K hK => ?_)
    · refine goes_ Try.func41 (by kernel_rfl) rfl #[.int .i64 an, .int .i64 bd] (by rfl) rfl rfl (by (try simp only [List.map_toArray, List.map_cons, List.map_nil]); first | done | rfl) ?_
      refine (ratio_shared.calls (big + 1) an bd xa xb _ hs1).mono ?_
      rintro e_ w_ ⟨rfl, hb_⟩
      refine ⟨_, rfl, ?_⟩
      have hS_ := (hHeld.step hb_)
      refine hK.out _ _ hS_ (fun hHeld_ => ?_)
      clear hK K
      exact norm_ (by rfl) (hj_4 (0, 0) w_ ⟨hS_, trivial⟩)
    · refine box_step (by rfl) (N := 6) rfl (cs := #[.int .i64 0, .int .i64 0]) (t := 109) ?_ ?_
      · first
          | (go_simp; done)
          | (go_simp; rfl)
      intro p10 hp_ w_ hbox_ hB_
      have hS_ := (hHeld.step hB_)
      have hz_ := hHeld.size
      refine hK.out _ _ hS_ (fun hHeld_ => ?_)
      clear hK K
      exact norm_ (by rfl) (hj_10 (p10, 0) w_ ⟨hS_, hbox_, by show w.heap.size + 3 ≤ p10; omega, trivial⟩)
    · refine box_step (by rfl) (N := 7) rfl (cs := #[.int .i64 0, .int .i64 0]) (t := 109) ?_ ?_
      · first
          | (go_simp; done)
          | (go_simp; rfl)
      intro p11 hp_ w_ hbox_ hB_
      have hS_ := (hHeld.step hB_)
      have hz_ := hHeld.size
      refine hK.out _ _ hS_ (fun hHeld_ => ?_)
      clear hK K
      exact norm_ (by rfl) (hj_11 (0, p11) w_ ⟨hS_, hbox_, by show w.heap.size + 3 ≤ p11; omega, trivial⟩)
  clear hHeld
  rintro ⟨p10, p11⟩ wN hF
  obtain ⟨hHeld, hb10, hl10, hb11, hl11, hn10_11, _⟩ := hF
  replace hb10 : wN.heap[p10]? = some (.cells #[.int .i64 0, .int .i64 0] 109 (0, 0)) := hb10
  replace hl10 : w.heap.size + 3 ≤ p10 := hl10
  replace hb11 : wN.heap[p11]? = some (.cells #[.int .i64 0, .int .i64 0] 109 (0, 0)) := hb11
  replace hl11 : w.heap.size + 3 ≤ p11 := hl11
  replace hn10_11 : p10 ≠ p11 := hn10_11
  refine norm_ (a' := ?_) ?_ ?_
  rotate_left
  · simp only [putAll, Act.put, List.setIfInBounds_toArray, List.set_cons_zero, List.set_cons_succ, i64_w, i32_w]
    rfl
  have hn11_10 := Ne.symm hn10_11
  have c0 : wN.cell? ⟨p10, 0, none⟩ = some (.int .i64 0) := blk_cell hb10 0
  have cf0 : wN.frozen? ⟨p10, 0, none⟩ = false := blk_frozen hb10 0
  have c1 : wN.cell? ⟨p10, 1, none⟩ = some (.int .i64 0) := blk_cell hb10 1
  have cf1 : wN.frozen? ⟨p10, 1, none⟩ = false := blk_frozen hb10 1
  have d0 : wN.cell? ⟨p11, 0, none⟩ = some (.int .i64 0) := blk_cell hb11 0
  have df0 : wN.frozen? ⟨p11, 0, none⟩ = false := blk_frozen hb11 0
  have d1 : wN.cell? ⟨p11, 1, none⟩ = some (.int .i64 0) := blk_cell hb11 1
  have df1 : wN.frozen? ⟨p11, 1, none⟩ = false := blk_frozen hb11 1
  refine one_ (i := 12) (N := none) #[true, true, true, true, true, true, true, true, true, true, true, true, true, false] rfl rfl (by kernel_rfl) (by decide) (fun K hK => ?_)
  refine skip_ (w1 := (wN.setCell ⟨p10, 0, none⟩ (.int .i64 xa)).setCell ⟨p10, 1, none⟩ (.int .i64 xb)) (by rfl) rfl ?_ ?_
  · first
    | (go_simp; done)
    | (go_simp; rfl)
  refine hK.out _ _ ((hHeld.far (p := ⟨p10, 0, none⟩) hl10 (.int .i64 xa)).far (p := ⟨p10, 1, none⟩) hl10 (.int .i64 xb)) (fun hHeld => ?_)
  clear hK K
  refine norm_ (a' := ?_) ?_ ?_
  rotate_left
  · rfl
  refine one_ (i := 13) (N := none) #[true, true, true, true, true, true, true, true, true, true, true, true, true, true] rfl rfl (by kernel_rfl) (by decide) (fun K hK => ?_)
  refine skip_ (w1 := (((wN.setCell ⟨p10, 0, none⟩ (.int .i64 xa)).setCell ⟨p10, 1, none⟩ (.int .i64 xb)).setCell ⟨p11, 0, none⟩ (.int .i64 ya)).setCell ⟨p11, 1, none⟩ (.int .i64 yb)) (by rfl) rfl ?_ ?_
  · first
    | (go_simp; done)
    | (go_simp; rfl)
  refine hK.out _ _ ((hHeld.far (p := ⟨p11, 0, none⟩) hl11 (.int .i64 ya)).far (p := ⟨p11, 1, none⟩) hl11 (.int .i64 yb)) (fun hHeld => ?_)
  clear hK K
  refine norm_ (a' := ?_) ?_ ?_
  rotate_left
  · rfl
  refine done_ (by kernel_rfl) ?_
  have kx := blk_far (blk_far (blk_set (blk_set hb10 0 (.int .i64 xa)) 1 (.int .i64 xb)) (p := ⟨p11, 0, none⟩) hn10_11 (.int .i64 ya)) (p := ⟨p11, 1, none⟩) hn10_11 (.int .i64 yb)
  have ky := blk_set (blk_set (blk_far (blk_far hb11 (p := ⟨p10, 0, none⟩) hn11_10 (.int .i64 xa)) (p := ⟨p10, 1, none⟩) hn11_10 (.int .i64 xb)) 0 (.int .i64 ya)) 1 (.int .i64 yb)
  clear hB
  obtain ⟨w4, hw4⟩ : ∃ w4, w4 = (((wN.setCell ⟨p10, 0, none⟩ (.int .i64 xa)).setCell ⟨p10, 1, none⟩ (.int .i64 xb)).setCell ⟨p11, 0, none⟩ (.int .i64 ya)).setCell ⟨p11, 1, none⟩ (.int .i64 yb) := ⟨_, rfl⟩
  rw [← hw4] at kx ky hHeld ⊢
  have hB := hHeld
  clear hHeld
  clear hw4 hb10 hb11 c0 c1 cf0 cf1 d0 d1 df0 df1 hn10_11 hn11_10 hl10 hl11
  have c0 : w4.cell? ⟨p10, 0, none⟩ = some (.int .i64 xa) := blk_cell kx 0
  have c1 : w4.cell? ⟨p10, 1, none⟩ = some (.int .i64 xb) := blk_cell kx 1
  have d0 : w4.cell? ⟨p11, 0, none⟩ = some (.int .i64 ya) := blk_cell ky 0
  have d1 : w4.cell? ⟨p11, 1, none⟩ = some (.int .i64 yb) := blk_cell ky 1
  have m1 := mul_eq i1 i3 (k := big + 1) (by omega)
  have m2 := mul_eq i2 i4 (k := big + 1) (by omega)
  have q1 := watched_ok (xa * ya)
  have q2 := watched_ok (xb * yb)
  have q3 := @watched_fst (xa * ya)
  have q4 := @watched_fst (xb * yb)
  obtain ⟨n, hn⟩ : ∃ n, (watched (xa * ya)).1 = n := ⟨_, rfl⟩
  obtain ⟨o1, ho1⟩ : ∃ n, (watched (xa * ya)).2 = n := ⟨_, rfl⟩
  obtain ⟨d, hd⟩ : ∃ n, (watched (xb * yb)).1 = n := ⟨_, rfl⟩
  obtain ⟨o2, ho2⟩ : ∃ n, (watched (xb * yb)).2 = n := ⟨_, rfl⟩
  rw [watched_eta (xa * ya), hn, ho1] at m1
  rw [watched_eta (xb * yb), hd, ho2] at m2
  rw [ho1] at q1
  rw [ho2] at q2
  rw [hn] at q3
  rw [hd] at q4
  clear hn ho1 hd ho2
  have Q3 := Lib.hid q3
  have Q4 := Lib.hid q4
  have Q1 := Lib.hid q1
  have Q2 := Lib.hid q2
  clear q1 q2 q3 q4
  go_wp2_with fail
  refine (whole_Mul.calls (big + 1) xa ya n o1 _ m1).mono ?_
  rintro e w5 ⟨rfl, hb5⟩
  replace kx := blk_below kx hb5.below
  replace ky := blk_below ky hb5.below
  replace hB := hB.step hb5.below
  clear hb5 c0 c1 d0 d1
  have c0 : w5.cell? ⟨p10, 0, none⟩ = some (.int .i64 xa) := blk_cell kx 0
  have c1 : w5.cell? ⟨p10, 1, none⟩ = some (.int .i64 xb) := blk_cell kx 1
  have d0 : w5.cell? ⟨p11, 0, none⟩ = some (.int .i64 ya) := blk_cell ky 0
  have d1 : w5.cell? ⟨p11, 1, none⟩ = some (.int .i64 yb) := blk_cell ky 1
  go_wp2_with fail
  refine (whole_Mul.calls (big + 1) xb yb d o2 _ m2).mono ?_
  rintro e w6 ⟨rfl, hb6⟩
  replace hB := hB.step hb6.below
  clear hb6 c0 c1 d0 d1 kx ky
  cases o1 with
  | false =>
    have hno : ¬ I64 (xa * ya) := of_decide_eq_false Q1.out.symm
    have hx_ := hB.b3
    have d_0 : w6.cell? ⟨w.heap.size + 1 + 1, 0, none⟩ = some (.int .i64 0) := blk_cell hx_ 0
    have df_0 : w6.frozen? ⟨w.heap.size + 1 + 1, 0, none⟩ = false := blk_frozen hx_ 0
    have d_1 : w6.cell? ⟨w.heap.size + 1 + 1, 1, none⟩ = some (.int .i64 0) := blk_cell hx_ 1
    have df_1 : w6.frozen? ⟨w.heap.size + 1 + 1, 1, none⟩ = false := blk_frozen hx_ 1
    go_wp2_with fail
    have k_ := (blk_set (blk_set hx_ 0 (.int .i64 0)) 1 (.int .i64 0))
    have hB_ := (Below.setCell (Below.setCell hB.be (p := ⟨w.heap.size + 1 + 1, 0, none⟩) ((by show w.heap.size ≤ w.heap.size + 1 + 1; omega)) (.int .i64 0)) (p := ⟨w.heap.size + 1 + 1, 1, none⟩) ((by show w.heap.size ≤ w.heap.size + 1 + 1; omega)) (.int .i64 0))
    obtain ⟨w_, hw_⟩ : ∃ w_, w_ = (World.setCell (World.setCell w6 ⟨w.heap.size + 1 + 1, 0, none⟩ (.int .i64 0)) ⟨w.heap.size + 1 + 1, 1, none⟩ (.int .i64 0)) := ⟨_, rfl⟩
    rw [← hw_] at k_ hB_
    try rw [← hw_]
    clear hw_
    have s_0 : w_.cell? ⟨w.heap.size + 1 + 1, 0, none⟩ = some (.int .i64 0) := blk_cell k_ 0
    have s_1 : w_.cell? ⟨w.heap.size + 1 + 1, 1, none⟩ = some (.int .i64 0) := blk_cell k_ 1
    refine bodyPost_ret (by simp [results, Try.results62, go_sem, s_0, s_1]; try rfl) rfl ?_
    rw [HM.out, if_neg (fun h => hno h.1)]
    exact ⟨rfl, hB_⟩
  | true =>
    have hy1 : I64 (xa * ya) := of_decide_eq_true Q1.out.symm
    cases o2 with
    | false =>
      have hno : ¬ I64 (xb * yb) := of_decide_eq_false Q2.out.symm
      have hx_ := hB.b3
      have d_0 : w6.cell? ⟨w.heap.size + 1 + 1, 0, none⟩ = some (.int .i64 0) := blk_cell hx_ 0
      have df_0 : w6.frozen? ⟨w.heap.size + 1 + 1, 0, none⟩ = false := blk_frozen hx_ 0
      have d_1 : w6.cell? ⟨w.heap.size + 1 + 1, 1, none⟩ = some (.int .i64 0) := blk_cell hx_ 1
      have df_1 : w6.frozen? ⟨w.heap.size + 1 + 1, 1, none⟩ = false := blk_frozen hx_ 1
      go_wp2_with fail
      have k_ := (blk_set (blk_set hx_ 0 (.int .i64 0)) 1 (.int .i64 0))
      have hB_ := (Below.setCell (Below.setCell hB.be (p := ⟨w.heap.size + 1 + 1, 0, none⟩) ((by show w.heap.size ≤ w.heap.size + 1 + 1; omega)) (.int .i64 0)) (p := ⟨w.heap.size + 1 + 1, 1, none⟩) ((by show w.heap.size ≤ w.heap.size + 1 + 1; omega)) (.int .i64 0))
      obtain ⟨w_, hw_⟩ : ∃ w_, w_ = (World.setCell (World.setCell w6 ⟨w.heap.size + 1 + 1, 0, none⟩ (.int .i64 0)) ⟨w.heap.size + 1 + 1, 1, none⟩ (.int .i64 0)) := ⟨_, rfl⟩
      rw [← hw_] at k_ hB_
      try rw [← hw_]
      clear hw_
      have s_0 : w_.cell? ⟨w.heap.size + 1 + 1, 0, none⟩ = some (.int .i64 0) := blk_cell k_ 0
      have s_1 : w_.cell? ⟨w.heap.size + 1 + 1, 1, none⟩ = some (.int .i64 0) := blk_cell k_ 1
      refine bodyPost_ret (by simp [results, Try.results62, go_sem, s_0, s_1]; try rfl) rfl ?_
      rw [HM.out, if_neg (fun h => hno h.2)]
      exact ⟨rfl, hB_⟩
    | true =>
      have hy2 : I64 (xb * yb) := of_decide_eq_true Q2.out.symm
      have H1 := Lib.hid hy1
      have H2 := Lib.hid hy2
      have en := Q3.out hy1
      have ed := Q4.out hy2
      rw [← en] at hy1
      rw [← ed] at hy2 hpos
      have EN := Lib.hid en
      have ED := Lib.hid ed
      clear en ed Q3 Q4
      go_wp2_with fail
      refine (make_calls hy1 hy2 hpos _).mono ?_
      rintro e w7 ⟨rfl, hb7⟩
      replace hB := hB.step hb7
      clear hb7
      have hx_ := hB.b3
      have d_0 : w7.cell? ⟨w.heap.size + 1 + 1, 0, none⟩ = some (.int .i64 0) := blk_cell hx_ 0
      have df_0 : w7.frozen? ⟨w.heap.size + 1 + 1, 0, none⟩ = false := blk_frozen hx_ 0
      have d_1 : w7.cell? ⟨w.heap.size + 1 + 1, 1, none⟩ = some (.int .i64 0) := blk_cell hx_ 1
      have df_1 : w7.frozen? ⟨w.heap.size + 1 + 1, 1, none⟩ = false := blk_frozen hx_ 1
      go_wp2_with fail
      have k_ := (blk_set (blk_set hx_ 0 (.int .i64 (low n d).1)) 1 (.int .i64 (low n d).2))
      have hB_ := (Below.setCell (Below.setCell hB.be (p := ⟨w.heap.size + 1 + 1, 0, none⟩) ((by show w.heap.size ≤ w.heap.size + 1 + 1; omega)) (.int .i64 (low n d).1)) (p := ⟨w.heap.size + 1 + 1, 1, none⟩) ((by show w.heap.size ≤ w.heap.size + 1 + 1; omega)) (.int .i64 (low n d).2))
      obtain ⟨w_, hw_⟩ : ∃ w_, w_ = (World.setCell (World.setCell w7 ⟨w.heap.size + 1 + 1, 0, none⟩ (.int .i64 (low n d).1)) ⟨w.heap.size + 1 + 1, 1, none⟩ (.int .i64 (low n d).2)) := ⟨_, rfl⟩
      rw [← hw_] at k_ hB_
      try rw [← hw_]
      clear hw_
      have s_0 : w_.cell? ⟨w.heap.size + 1 + 1, 0, none⟩ = some (.int .i64 (low n d).1) := blk_cell k_ 0
      have s_1 : w_.cell? ⟨w.heap.size + 1 + 1, 1, none⟩ = some (.int .i64 (low n d).2) := blk_cell k_ 1
      refine bodyPost_ret (by simp [results, Try.results62, go_sem, s_0, s_1]; try rfl) rfl ?_
      rw [HM.out, if_pos ⟨H1.out, H2.out⟩, ← EN.out, ← ED.out]
      exact ⟨rfl, hB_⟩

/-- The product: what is answered, whatever comes in. -/
theorem mul_calls {an ad bn bd : Int} (h1 : I64 an) (h2 : I64 ad) (h3 : I64 bn) (h4 : I64 bd) (w : World) :
    Calls Try.prog 62 #[.agg #[.int .i64 an, .int .i64 ad], .agg #[.int .i64 bn, .int .i64 bd]] w fun e w' => e = ans (told (Rt an ad ∧ Rt bn bd) (mulR an ad bn bd)) ∧ Below w.heap.size w w' := by
  by_cases h : Rt an ad ∧ Rt bn bd
  · refine (mul_right h1 h2 h3 h4 h.1 h.2 w).mono ?_
    rintro e w' ⟨rfl, hb⟩
    exact ⟨by simp [told, h], hb⟩
  · refine (mul_wrong h1 h2 h3 h4 h w).mono ?_
    rintro e w' ⟨rfl, hb⟩
    exact ⟨by simp [told, h], hb⟩
end Go.Proofs.Ytmnohhmnkmnikaa.RatPlain

/- The sum of two fractions, walked. -/
set_option linter.unusedVariables false
set_option linter.unusedSimpArgs false
namespace Go.Proofs.Ytmnohhmnkmnikaa.RatPlain
open Go.RowKit Go.Proofs.YtmnohhmnkmnikaaW.PrintWords Go.Proofs.YtmnohhmnkmnikaaW.PrintLast Go.Proofs.Ytmnohhmnkmnikaa.Nats Go.Proofs.Ytmnohhmnkmnikaa.HeapKit Go.Proofs.Ytmnohhmnkmnikaa.PAdd

/-- The sum, or none. -/
def addR (an ad bn bd : Int) : Option (Int × Int) :=
  let g : Int := (Int.gcd ad bd : Nat)
  let x := an * bd.tdiv g
  let y := bn * ad.tdiv g
  let d := ad * bd.tdiv g
  if I64 x ∧ I64 y ∧ I64 (x + y) ∧ I64 d then some (low (x + y) d) else none

set_option maxRecDepth 100000 in
set_option maxHeartbeats 2000000 in
theorem add_wrong {an ad bn bd : Int} (h1 : I64 an) (h2 : I64 ad) (h3 : I64 bn) (h4 : I64 bd) (hr : ¬ (Rt an ad ∧ Rt bn bd)) (w : World) :
    Calls Try.prog 20 #[.agg #[.int .i64 an, .int .i64 ad], .agg #[.int .i64 bn, .int .i64 bd]] w fun e w' => e = ans (0, 0, 1) ∧ Below w.heap.size w w' := by
  have hb := both_eq h1 h2 h3 h4 (k := big + 1) (by omega)
  rw [decide_eq_false hr] at hb
  go_enter Try.func20, Try.ntmps20
  go_wp2_with fail
  refine (ratio_both.calls (big + 1) an ad bn bd false _ hb).mono ?_
  rintro e w1 ⟨rfl, hb1⟩
  have hB := (b3_start w (.cells #[.int .i64 an, .int .i64 ad] 53) (.cells #[.int .i64 bn, .int .i64 bd] 53) (.cells #[.int .i64 0, .int .i64 0] 53)).step hb1
  clear hb1
  have hx_ := hB.b3
  have d_0 : w1.cell? ⟨w.heap.size + 1 + 1, 0, none⟩ = some (.int .i64 0) := blk_cell hx_ 0
  have df_0 : w1.frozen? ⟨w.heap.size + 1 + 1, 0, none⟩ = false := blk_frozen hx_ 0
  have d_1 : w1.cell? ⟨w.heap.size + 1 + 1, 1, none⟩ = some (.int .i64 0) := blk_cell hx_ 1
  have df_1 : w1.frozen? ⟨w.heap.size + 1 + 1, 1, none⟩ = false := blk_frozen hx_ 1
  go_wp2_with fail
  have k_ := (blk_set (blk_set hx_ 0 (.int .i64 0)) 1 (.int .i64 0))
  have hB_ := (Below.setCell (Below.setCell hB.be (p := ⟨w.heap.size + 1 + 1, 0, none⟩) ((by show w.heap.size ≤ w.heap.size + 1 + 1; omega)) (.int .i64 0)) (p := ⟨w.heap.size + 1 + 1, 1, none⟩) ((by show w.heap.size ≤ w.heap.size + 1 + 1; omega)) (.int .i64 0))
  obtain ⟨w_, hw_⟩ : ∃ w_, w_ = (World.setCell (World.setCell w1 ⟨w.heap.size + 1 + 1, 0, none⟩ (.int .i64 0)) ⟨w.heap.size + 1 + 1, 1, none⟩ (.int .i64 0)) := ⟨_, rfl⟩
  rw [← hw_] at k_ hB_
  try rw [← hw_]
  clear hw_
  have s_0 : w_.cell? ⟨w.heap.size + 1 + 1, 0, none⟩ = some (.int .i64 0) := blk_cell k_ 0
  have s_1 : w_.cell? ⟨w.heap.size + 1 + 1, 1, none⟩ = some (.int .i64 0) := blk_cell k_ 1
  refine bodyPost_ret (by simp [results, Try.results20, go_sem, s_0, s_1]; try rfl) rfl ?_
  exact ⟨rfl, hB_⟩

/-- A watched number: what it is, whether it is within. -/
theorem watch (x : Int) : ∃ n o, watched x = (n, o) ∧ (o = true → I64 x ∧ n = x) ∧ (o = false → ¬ I64 x) := by
  by_cases h : I64 x
  · exact ⟨x, true, watched_yes h, fun _ => ⟨h, rfl⟩, fun e => by cases e⟩
  · exact ⟨0, false, watched_no h, fun e => (by cases e), fun _ => h⟩

set_option maxRecDepth 100000 in
set_option maxHeartbeats 4000000 in
theorem add_right {an ad bn bd : Int} (h1 : I64 an) (h2 : I64 ad) (h3 : I64 bn) (h4 : I64 bd) (ra : Rt an ad) (rb : Rt bn bd) (w : World) :
    Calls Try.prog 20 #[.agg #[.int .i64 an, .int .i64 ad], .agg #[.int .i64 bn, .int .i64 bd]] w fun e w' => e = ans (told True (addR an ad bn bd)) ∧ Below w.heap.size w w' := by
  have hb := both_eq h1 h2 h3 h4 (k := big + 1) (by omega)
  rw [decide_eq_true (And.intro ra rb)] at hb
  have hs1 := shared_eq h2 h4 rb.1 (k := big + 1) (by omega)
  obtain ⟨sa, hsa⟩ : ∃ x, ad.tdiv (Int.gcd ad bd : Nat) = x := ⟨_, rfl⟩
  obtain ⟨sb, hsb⟩ : ∃ x, bd.tdiv (Int.gcd ad bd : Nat) = x := ⟨_, rfl⟩
  rw [hsa, hsb] at hs1
  have hM : addR an ad bn bd = if I64 (an * sb) ∧ I64 (bn * sa) ∧ I64 (an * sb + bn * sa) ∧ I64 (ad * sb) then some (low (an * sb + bn * sa) (ad * sb)) else none := by
    unfold addR
    simp only [hsa, hsb]
  have i1 : I64 sa := by rw [← hsa]; exact h2.tdiv (gcd_pos rb.1)
  have i2 : I64 sb := by rw [← hsb]; exact h4.tdiv (gcd_pos rb.1)
  have hpos : 0 < ad * sb := by
    rw [← hsb]
    exact Int.mul_pos ra.1 (exact_pos rb.1 (dvd_right _ _) (gcd_pos rb.1))
  obtain ⟨M, hMM⟩ : ∃ M, addR an ad bn bd = M := ⟨_, rfl⟩
  rw [hMM] at hM ⊢
  have HM := Lib.hid hM
  clear hM hMM hsa hsb
  obtain ⟨x, ox, ex, fx, gx⟩ := watch (an * sb)
  obtain ⟨y, oy, ey, fy, gy⟩ := watch (bn * sa)
  have j1 : I64 x := by have := watched_I64 (an * sb); rwa [ex] at this
  have j2 : I64 y := by have := watched_I64 (bn * sa); rwa [ey] at this
  obtain ⟨n, os, en, fn, gn⟩ := watch (x + y)
  obtain ⟨d, od, ed, fd, gd⟩ := watch (ad * sb)
  have m1 := mul_eq h1 i2 (k := big + 1) (by omega)
  have m2 := mul_eq h3 i1 (k := big + 1) (by omega)
  have m3 := add_eq j1 j2
  have m4 := mul_eq h2 i2 (k := big + 1) (by omega)
  rw [ex] at m1
  rw [ey] at m2
  rw [en] at m3
  rw [ed] at m4
  have FX := Lib.hid fx
  have FY := Lib.hid fy
  have FN := Lib.hid fn
  have FD := Lib.hid fd
  have GX := Lib.hid gx
  have GY := Lib.hid gy
  have GN := Lib.hid gn
  have GD := Lib.hid gd
  clear fx fy fn fd gx gy gn gd ex ey en ed
  go_enter Try.func20, Try.ntmps20
  go_wp2_with fail
  refine (ratio_both.calls (big + 1) an ad bn bd true _ hb).mono ?_
  rintro e w1 ⟨rfl, hb1⟩
  have hB := (b3_start w (.cells #[.int .i64 an, .int .i64 ad] 53) (.cells #[.int .i64 bn, .int .i64 bd] 53) (.cells #[.int .i64 0, .int .i64 0] 53)).step hb1
  clear hb1
  have a0 : w1.cell? ⟨w.heap.size, 0, none⟩ = some (.int .i64 an) := blk_cell hB.b1 0
  have a1 : w1.cell? ⟨w.heap.size, 1, none⟩ = some (.int .i64 ad) := blk_cell hB.b1 1
  have b0 : w1.cell? ⟨w.heap.size + 1, 0, none⟩ = some (.int .i64 bn) := blk_cell hB.b2 0
  have b1 : w1.cell? ⟨w.heap.size + 1, 1, none⟩ = some (.int .i64 bd) := blk_cell hB.b2 1
  go_wp2_with fail
  refine (ratio_shared.calls (big + 1) ad bd sa sb _ hs1).mono ?_
  rintro e w2 ⟨rfl, hb2⟩
  replace hB := hB.step hb2
  clear hb2 a0 a1 b0 b1
  have hw2 := hB.size
  replace hB := hB.step (below_alloc (Below.refl _ _) (.cells #[.int .i64 sa, .int .i64 sb] 109))
  have kx := blk_new w2 (.cells #[.int .i64 sa, .int .i64 sb] 109)
  have a0 : (w2.alloc (.cells #[.int .i64 sa, .int .i64 sb] 109)).cell? ⟨w.heap.size, 0, none⟩ = some (.int .i64 an) := blk_cell hB.b1 0
  have a1 : (w2.alloc (.cells #[.int .i64 sa, .int .i64 sb] 109)).cell? ⟨w.heap.size, 1, none⟩ = some (.int .i64 ad) := blk_cell hB.b1 1
  have b0 : (w2.alloc (.cells #[.int .i64 sa, .int .i64 sb] 109)).cell? ⟨w.heap.size + 1, 0, none⟩ = some (.int .i64 bn) := blk_cell hB.b2 0
  have b1 : (w2.alloc (.cells #[.int .i64 sa, .int .i64 sb] 109)).cell? ⟨w.heap.size + 1, 1, none⟩ = some (.int .i64 bd) := blk_cell hB.b2 1
  have c0 : (w2.alloc (.cells #[.int .i64 sa, .int .i64 sb] 109)).cell? ⟨w2.heap.size, 0, none⟩ = some (.int .i64 sa) := blk_cell kx 0
  have c1 : (w2.alloc (.cells #[.int .i64 sa, .int .i64 sb] 109)).cell? ⟨w2.heap.size, 1, none⟩ = some (.int .i64 sb) := blk_cell kx 1
  go_wp2_with fail
  refine (whole_Mul.calls (big + 1) an sb x ox _ m1).mono ?_
  rintro e w3 ⟨rfl, hb_⟩
  replace hB := hB.step hb_.below
  replace kx := blk_below kx hb_.below
  clear hb_ a0 a1 b0 b1 c0 c1
  have a0 : w3.cell? ⟨w.heap.size, 0, none⟩ = some (.int .i64 an) := blk_cell hB.b1 0
  have a1 : w3.cell? ⟨w.heap.size, 1, none⟩ = some (.int .i64 ad) := blk_cell hB.b1 1
  have b0 : w3.cell? ⟨w.heap.size + 1, 0, none⟩ = some (.int .i64 bn) := blk_cell hB.b2 0
  have b1 : w3.cell? ⟨w.heap.size + 1, 1, none⟩ = some (.int .i64 bd) := blk_cell hB.b2 1
  have c0 : w3.cell? ⟨w2.heap.size, 0, none⟩ = some (.int .i64 sa) := blk_cell kx 0
  have c1 : w3.cell? ⟨w2.heap.size, 1, none⟩ = some (.int .i64 sb) := blk_cell kx 1
  go_wp2_with fail
  refine (whole_Mul.calls (big + 1) bn sa y oy _ m2).mono ?_
  rintro e w4 ⟨rfl, hb_⟩
  replace hB := hB.step hb_.below
  replace kx := blk_below kx hb_.below
  clear hb_ a0 a1 b0 b1 c0 c1
  have a0 : w4.cell? ⟨w.heap.size, 0, none⟩ = some (.int .i64 an) := blk_cell hB.b1 0
  have a1 : w4.cell? ⟨w.heap.size, 1, none⟩ = some (.int .i64 ad) := blk_cell hB.b1 1
  have b0 : w4.cell? ⟨w.heap.size + 1, 0, none⟩ = some (.int .i64 bn) := blk_cell hB.b2 0
  have b1 : w4.cell? ⟨w.heap.size + 1, 1, none⟩ = some (.int .i64 bd) := blk_cell hB.b2 1
  have c0 : w4.cell? ⟨w2.heap.size, 0, none⟩ = some (.int .i64 sa) := blk_cell kx 0
  have c1 : w4.cell? ⟨w2.heap.size, 1, none⟩ = some (.int .i64 sb) := blk_cell kx 1
  go_wp2_with fail
  refine (whole_Add.calls x y n os _ m3).mono ?_
  rintro e w5 ⟨rfl, hb_⟩
  replace hB := hB.step hb_.below
  replace kx := blk_below kx hb_.below
  clear hb_ a0 a1 b0 b1 c0 c1
  have a0 : w5.cell? ⟨w.heap.size, 0, none⟩ = some (.int .i64 an) := blk_cell hB.b1 0
  have a1 : w5.cell? ⟨w.heap.size, 1, none⟩ = some (.int .i64 ad) := blk_cell hB.b1 1
  have b0 : w5.cell? ⟨w.heap.size + 1, 0, none⟩ = some (.int .i64 bn) := blk_cell hB.b2 0
  have b1 : w5.cell? ⟨w.heap.size + 1, 1, none⟩ = some (.int .i64 bd) := blk_cell hB.b2 1
  have c0 : w5.cell? ⟨w2.heap.size, 0, none⟩ = some (.int .i64 sa) := blk_cell kx 0
  have c1 : w5.cell? ⟨w2.heap.size, 1, none⟩ = some (.int .i64 sb) := blk_cell kx 1
  go_wp2_with fail
  refine (whole_Mul.calls (big + 1) ad sb d od _ m4).mono ?_
  rintro e w6 ⟨rfl, hb_⟩
  replace hB := hB.step hb_.below
  replace kx := blk_below kx hb_.below
  clear hb_ a0 a1 b0 b1 c0 c1
  have a0 : w6.cell? ⟨w.heap.size, 0, none⟩ = some (.int .i64 an) := blk_cell hB.b1 0
  have a1 : w6.cell? ⟨w.heap.size, 1, none⟩ = some (.int .i64 ad) := blk_cell hB.b1 1
  have b0 : w6.cell? ⟨w.heap.size + 1, 0, none⟩ = some (.int .i64 bn) := blk_cell hB.b2 0
  have b1 : w6.cell? ⟨w.heap.size + 1, 1, none⟩ = some (.int .i64 bd) := blk_cell hB.b2 1
  have c0 : w6.cell? ⟨w2.heap.size, 0, none⟩ = some (.int .i64 sa) := blk_cell kx 0
  have c1 : w6.cell? ⟨w2.heap.size, 1, none⟩ = some (.int .i64 sb) := blk_cell kx 1
  clear a0 a1 b0 b1 c0 c1 kx hw2
  cases ox with
  | false =>
    have hx_ := hB.b3
    have d_0 : w6.cell? ⟨w.heap.size + 1 + 1, 0, none⟩ = some (.int .i64 0) := blk_cell hx_ 0
    have df_0 : w6.frozen? ⟨w.heap.size + 1 + 1, 0, none⟩ = false := blk_frozen hx_ 0
    have d_1 : w6.cell? ⟨w.heap.size + 1 + 1, 1, none⟩ = some (.int .i64 0) := blk_cell hx_ 1
    have df_1 : w6.frozen? ⟨w.heap.size + 1 + 1, 1, none⟩ = false := blk_frozen hx_ 1
    go_wp2_with fail
    have k_ := (blk_set (blk_set hx_ 0 (.int .i64 0)) 1 (.int .i64 0))
    have hB_ := (Below.setCell (Below.setCell hB.be (p := ⟨w.heap.size + 1 + 1, 0, none⟩) ((by show w.heap.size ≤ w.heap.size + 1 + 1; omega)) (.int .i64 0)) (p := ⟨w.heap.size + 1 + 1, 1, none⟩) ((by show w.heap.size ≤ w.heap.size + 1 + 1; omega)) (.int .i64 0))
    obtain ⟨w_, hw_⟩ : ∃ w_, w_ = (World.setCell (World.setCell w6 ⟨w.heap.size + 1 + 1, 0, none⟩ (.int .i64 0)) ⟨w.heap.size + 1 + 1, 1, none⟩ (.int .i64 0)) := ⟨_, rfl⟩
    rw [← hw_] at k_ hB_
    try rw [← hw_]
    clear hw_
    have s_0 : w_.cell? ⟨w.heap.size + 1 + 1, 0, none⟩ = some (.int .i64 0) := blk_cell k_ 0
    have s_1 : w_.cell? ⟨w.heap.size + 1 + 1, 1, none⟩ = some (.int .i64 0) := blk_cell k_ 1
    refine bodyPost_ret (by simp [results, Try.results20, go_sem, s_0, s_1]; try rfl) rfl ?_
    rw [HM.out, if_neg (fun h => GX.out (by trivial) h.1)]
    exact ⟨rfl, hB_⟩
  | true =>
    cases oy with
    | false =>
      have hx_ := hB.b3
      have d_0 : w6.cell? ⟨w.heap.size + 1 + 1, 0, none⟩ = some (.int .i64 0) := blk_cell hx_ 0
      have df_0 : w6.frozen? ⟨w.heap.size + 1 + 1, 0, none⟩ = false := blk_frozen hx_ 0
      have d_1 : w6.cell? ⟨w.heap.size + 1 + 1, 1, none⟩ = some (.int .i64 0) := blk_cell hx_ 1
      have df_1 : w6.frozen? ⟨w.heap.size + 1 + 1, 1, none⟩ = false := blk_frozen hx_ 1
      go_wp2_with fail
      have k_ := (blk_set (blk_set hx_ 0 (.int .i64 0)) 1 (.int .i64 0))
      have hB_ := (Below.setCell (Below.setCell hB.be (p := ⟨w.heap.size + 1 + 1, 0, none⟩) ((by show w.heap.size ≤ w.heap.size + 1 + 1; omega)) (.int .i64 0)) (p := ⟨w.heap.size + 1 + 1, 1, none⟩) ((by show w.heap.size ≤ w.heap.size + 1 + 1; omega)) (.int .i64 0))
      obtain ⟨w_, hw_⟩ : ∃ w_, w_ = (World.setCell (World.setCell w6 ⟨w.heap.size + 1 + 1, 0, none⟩ (.int .i64 0)) ⟨w.heap.size + 1 + 1, 1, none⟩ (.int .i64 0)) := ⟨_, rfl⟩
      rw [← hw_] at k_ hB_
      try rw [← hw_]
      clear hw_
      have s_0 : w_.cell? ⟨w.heap.size + 1 + 1, 0, none⟩ = some (.int .i64 0) := blk_cell k_ 0
      have s_1 : w_.cell? ⟨w.heap.size + 1 + 1, 1, none⟩ = some (.int .i64 0) := blk_cell k_ 1
      refine bodyPost_ret (by simp [results, Try.results20, go_sem, s_0, s_1]; try rfl) rfl ?_
      rw [HM.out, if_neg (fun h => GY.out (by trivial) h.2.1)]
      exact ⟨rfl, hB_⟩
    | true =>
      cases os with
      | false =>
        have hx_ := hB.b3
        have d_0 : w6.cell? ⟨w.heap.size + 1 + 1, 0, none⟩ = some (.int .i64 0) := blk_cell hx_ 0
        have df_0 : w6.frozen? ⟨w.heap.size + 1 + 1, 0, none⟩ = false := blk_frozen hx_ 0
        have d_1 : w6.cell? ⟨w.heap.size + 1 + 1, 1, none⟩ = some (.int .i64 0) := blk_cell hx_ 1
        have df_1 : w6.frozen? ⟨w.heap.size + 1 + 1, 1, none⟩ = false := blk_frozen hx_ 1
        go_wp2_with fail
        have k_ := (blk_set (blk_set hx_ 0 (.int .i64 0)) 1 (.int .i64 0))
        have hB_ := (Below.setCell (Below.setCell hB.be (p := ⟨w.heap.size + 1 + 1, 0, none⟩) ((by show w.heap.size ≤ w.heap.size + 1 + 1; omega)) (.int .i64 0)) (p := ⟨w.heap.size + 1 + 1, 1, none⟩) ((by show w.heap.size ≤ w.heap.size + 1 + 1; omega)) (.int .i64 0))
        obtain ⟨w_, hw_⟩ : ∃ w_, w_ = (World.setCell (World.setCell w6 ⟨w.heap.size + 1 + 1, 0, none⟩ (.int .i64 0)) ⟨w.heap.size + 1 + 1, 1, none⟩ (.int .i64 0)) := ⟨_, rfl⟩
        rw [← hw_] at k_ hB_
        try rw [← hw_]
        clear hw_
        have s_0 : w_.cell? ⟨w.heap.size + 1 + 1, 0, none⟩ = some (.int .i64 0) := blk_cell k_ 0
        have s_1 : w_.cell? ⟨w.heap.size + 1 + 1, 1, none⟩ = some (.int .i64 0) := blk_cell k_ 1
        refine bodyPost_ret (by simp [results, Try.results20, go_sem, s_0, s_1]; try rfl) rfl ?_
        rw [HM.out, if_neg (fun h => GN.out (by trivial) (by rw [(FX.out (by trivial)).2, (FY.out (by trivial)).2]; exact h.2.2.1))]
        exact ⟨rfl, hB_⟩
      | true =>
        cases od with
        | false =>
          have hx_ := hB.b3
          have d_0 : w6.cell? ⟨w.heap.size + 1 + 1, 0, none⟩ = some (.int .i64 0) := blk_cell hx_ 0
          have df_0 : w6.frozen? ⟨w.heap.size + 1 + 1, 0, none⟩ = false := blk_frozen hx_ 0
          have d_1 : w6.cell? ⟨w.heap.size + 1 + 1, 1, none⟩ = some (.int .i64 0) := blk_cell hx_ 1
          have df_1 : w6.frozen? ⟨w.heap.size + 1 + 1, 1, none⟩ = false := blk_frozen hx_ 1
          go_wp2_with fail
          have k_ := (blk_set (blk_set hx_ 0 (.int .i64 0)) 1 (.int .i64 0))
          have hB_ := (Below.setCell (Below.setCell hB.be (p := ⟨w.heap.size + 1 + 1, 0, none⟩) ((by show w.heap.size ≤ w.heap.size + 1 + 1; omega)) (.int .i64 0)) (p := ⟨w.heap.size + 1 + 1, 1, none⟩) ((by show w.heap.size ≤ w.heap.size + 1 + 1; omega)) (.int .i64 0))
          obtain ⟨w_, hw_⟩ : ∃ w_, w_ = (World.setCell (World.setCell w6 ⟨w.heap.size + 1 + 1, 0, none⟩ (.int .i64 0)) ⟨w.heap.size + 1 + 1, 1, none⟩ (.int .i64 0)) := ⟨_, rfl⟩
          rw [← hw_] at k_ hB_
          try rw [← hw_]
          clear hw_
          have s_0 : w_.cell? ⟨w.heap.size + 1 + 1, 0, none⟩ = some (.int .i64 0) := blk_cell k_ 0
          have s_1 : w_.cell? ⟨w.heap.size + 1 + 1, 1, none⟩ = some (.int .i64 0) := blk_cell k_ 1
          refine bodyPost_ret (by simp [results, Try.results20, go_sem, s_0, s_1]; try rfl) rfl ?_
          rw [HM.out, if_neg (fun h => GD.out (by trivial) h.2.2.2)]
          exact ⟨rfl, hB_⟩
        | true =>
          have kn : I64 n := by rw [(FN.out (by trivial)).2]; exact (FN.out (by trivial)).1
          have kd : I64 d := by rw [(FD.out (by trivial)).2]; exact (FD.out (by trivial)).1
          have kp : 0 < d := by rw [(FD.out (by trivial)).2]; exact hpos
          go_wp2_with fail
          refine (make_calls kn kd kp _).mono ?_
          rintro e w7 ⟨rfl, hb7⟩
          replace hB := hB.step hb7
          clear hb7
          have hx_ := hB.b3
          have d_0 : w7.cell? ⟨w.heap.size + 1 + 1, 0, none⟩ = some (.int .i64 0) := blk_cell hx_ 0
          have df_0 : w7.frozen? ⟨w.heap.size + 1 + 1, 0, none⟩ = false := blk_frozen hx_ 0
          have d_1 : w7.cell? ⟨w.heap.size + 1 + 1, 1, none⟩ = some (.int .i64 0) := blk_cell hx_ 1
          have df_1 : w7.frozen? ⟨w.heap.size + 1 + 1, 1, none⟩ = false := blk_frozen hx_ 1
          go_wp2_with fail
          have k_ := (blk_set (blk_set hx_ 0 (.int .i64 (low n d).1)) 1 (.int .i64 (low n d).2))
          have hB_ := (Below.setCell (Below.setCell hB.be (p := ⟨w.heap.size + 1 + 1, 0, none⟩) ((by show w.heap.size ≤ w.heap.size + 1 + 1; omega)) (.int .i64 (low n d).1)) (p := ⟨w.heap.size + 1 + 1, 1, none⟩) ((by show w.heap.size ≤ w.heap.size + 1 + 1; omega)) (.int .i64 (low n d).2))
          obtain ⟨w_, hw_⟩ : ∃ w_, w_ = (World.setCell (World.setCell w7 ⟨w.heap.size + 1 + 1, 0, none⟩ (.int .i64 (low n d).1)) ⟨w.heap.size + 1 + 1, 1, none⟩ (.int .i64 (low n d).2)) := ⟨_, rfl⟩
          rw [← hw_] at k_ hB_
          try rw [← hw_]
          clear hw_
          have s_0 : w_.cell? ⟨w.heap.size + 1 + 1, 0, none⟩ = some (.int .i64 (low n d).1) := blk_cell k_ 0
          have s_1 : w_.cell? ⟨w.heap.size + 1 + 1, 1, none⟩ = some (.int .i64 (low n d).2) := blk_cell k_ 1
          refine bodyPost_ret (by simp [results, Try.results20, go_sem, s_0, s_1]; try rfl) rfl ?_
          have en : n = an * sb + bn * sa := by rw [(FN.out (by trivial)).2, (FX.out (by trivial)).2, (FY.out (by trivial)).2]
          have hn := (FN.out (by trivial)).1
          rw [(FX.out (by trivial)).2, (FY.out (by trivial)).2] at hn
          rw [HM.out, if_pos ⟨(FX.out (by trivial)).1, (FY.out (by trivial)).1, hn, (FD.out (by trivial)).1⟩, ← en, ← (FD.out (by trivial)).2]
          exact ⟨rfl, hB_⟩

/-- The sum: what is answered, whatever comes in. -/
theorem add_calls {an ad bn bd : Int} (h1 : I64 an) (h2 : I64 ad) (h3 : I64 bn) (h4 : I64 bd) (w : World) :
    Calls Try.prog 20 #[.agg #[.int .i64 an, .int .i64 ad], .agg #[.int .i64 bn, .int .i64 bd]] w fun e w' => e = ans (told (Rt an ad ∧ Rt bn bd) (addR an ad bn bd)) ∧ Below w.heap.size w w' := by
  by_cases h : Rt an ad ∧ Rt bn bd
  · refine (add_right h1 h2 h3 h4 h.1 h.2 w).mono ?_
    rintro e w' ⟨rfl, hb⟩
    exact ⟨by simp [told, h], hb⟩
  · refine (add_wrong h1 h2 h3 h4 h w).mono ?_
    rintro e w' ⟨rfl, hb⟩
    exact ⟨by simp [told, h], hb⟩
end Go.Proofs.Ytmnohhmnkmnikaa.RatPlain

/- A value on its way (scale.way), walked. -/
set_option linter.unusedVariables false
set_option linter.unusedSimpArgs false
namespace Go.Proofs.Ytmnohhmnkmnikaa.Scale
open Go.RowKit Go.Proofs.YtmnohhmnkmnikaaW.PrintWords Go.Proofs.YtmnohhmnkmnikaaW.PrintLast Go.Proofs.Ytmnohhmnkmnikaa.Nats Go.Proofs.Ytmnohhmnkmnikaa.HeapKit Go.Proofs.Ytmnohhmnkmnikaa.PAdd Go.Proofs.Ytmnohhmnkmnikaa.RatPlain

/-- A way's cells as they are answered. -/
def way (r : Int × Int × Int) : Ending := .returned (.agg #[.int .i64 r.1, .int .i64 r.2.1, .int .i64 r.2.2])

set_option maxRecDepth 100000 in
set_option maxHeartbeats 2000000 in
theorem times_off {n d e bn bd : Int} (he : e ≠ 0) (w : World) :
    Calls Try.prog 82 #[.agg #[.int .i64 n, .int .i64 d, .int .i64 e], .agg #[.int .i64 bn, .int .i64 bd]] w fun x w' => x = way (n, d, e) ∧ Below w.heap.size w w' := by
  have t1 : (e == 0) = false := by simp [he]
  have hB := b3_start w (.cells #[.int .i64 n, .int .i64 d, .int .i64 e] 161) (.cells #[.int .i64 bn, .int .i64 bd] 53) (.cells #[.int .i64 0, .int .i64 0, .int .i64 0] 161)
  have hx0 := hB.b3
  go_enter Try.func82, Try.ntmps82
  have a0 : (((w.alloc (.cells #[.int .i64 n, .int .i64 d, .int .i64 e] 161)).alloc (.cells #[.int .i64 bn, .int .i64 bd] 53)).alloc (.cells #[.int .i64 0, .int .i64 0, .int .i64 0] 161)).cell? ⟨w.heap.size, 0, none⟩ = some (.int .i64 n) := blk_cell hB.b1 0
  have a1 : (((w.alloc (.cells #[.int .i64 n, .int .i64 d, .int .i64 e] 161)).alloc (.cells #[.int .i64 bn, .int .i64 bd] 53)).alloc (.cells #[.int .i64 0, .int .i64 0, .int .i64 0] 161)).cell? ⟨w.heap.size, 1, none⟩ = some (.int .i64 d) := blk_cell hB.b1 1
  have a2 : (((w.alloc (.cells #[.int .i64 n, .int .i64 d, .int .i64 e] 161)).alloc (.cells #[.int .i64 bn, .int .i64 bd] 53)).alloc (.cells #[.int .i64 0, .int .i64 0, .int .i64 0] 161)).cell? ⟨w.heap.size, 2, none⟩ = some (.int .i64 e) := blk_cell hB.b1 2
  have b0 : (((w.alloc (.cells #[.int .i64 n, .int .i64 d, .int .i64 e] 161)).alloc (.cells #[.int .i64 bn, .int .i64 bd] 53)).alloc (.cells #[.int .i64 0, .int .i64 0, .int .i64 0] 161)).cell? ⟨w.heap.size + 1, 0, none⟩ = some (.int .i64 bn) := blk_cell hB.b2 0
  have b1 : (((w.alloc (.cells #[.int .i64 n, .int .i64 d, .int .i64 e] 161)).alloc (.cells #[.int .i64 bn, .int .i64 bd] 53)).alloc (.cells #[.int .i64 0, .int .i64 0, .int .i64 0] 161)).cell? ⟨w.heap.size + 1, 1, none⟩ = some (.int .i64 bd) := blk_cell hB.b2 1
  go_wp2_with fail
  have hR := b3_start w (.cells #[.int .i64 n, .int .i64 d, .int .i64 e] 161) (.cells #[.int .i64 bn, .int .i64 bd] 53) (.cells #[.int .i64 n, .int .i64 d, .int .i64 e] 161)
  obtain ⟨w_, hw_⟩ : ∃ w_, w_ = (((w.alloc (.cells #[.int .i64 n, .int .i64 d, .int .i64 e] 161)).alloc (.cells #[.int .i64 bn, .int .i64 bd] 53)).alloc (.cells #[.int .i64 n, .int .i64 d, .int .i64 e] 161)) := ⟨_, rfl⟩
  rw [← hw_] at hR ⊢
  clear hw_
  have s0 : w_.cell? ⟨w.heap.size + 1 + 1, 0, none⟩ = some (.int .i64 n) := blk_cell hR.b3 0
  have s1 : w_.cell? ⟨w.heap.size + 1 + 1, 1, none⟩ = some (.int .i64 d) := blk_cell hR.b3 1
  have s2 : w_.cell? ⟨w.heap.size + 1 + 1, 2, none⟩ = some (.int .i64 e) := blk_cell hR.b3 2
  refine bodyPost_ret (by simp [results, Try.results82, go_sem, s0, s1, s2]; try rfl) rfl ?_
  exact ⟨rfl, hR.be⟩

set_option maxRecDepth 100000 in
set_option maxHeartbeats 2000000 in
theorem times_on {n d bn bd : Int} (h1 : I64 n) (h2 : I64 d) (h3 : I64 bn) (h4 : I64 bd) (w : World) :
    Calls Try.prog 82 #[.agg #[.int .i64 n, .int .i64 d, .int .i64 0], .agg #[.int .i64 bn, .int .i64 bd]] w fun x w' => x = way (told (Rt n d ∧ Rt bn bd) (mulR n d bn bd)) ∧ Below w.heap.size w w' := by
  obtain ⟨M, hMM⟩ : ∃ M, told (Rt n d ∧ Rt bn bd) (mulR n d bn bd) = M := ⟨_, rfl⟩
  have hc := fun w => mul_calls h1 h2 h3 h4 w
  rw [hMM]
  simp only [hMM] at hc
  clear hMM
  obtain ⟨r1, r2, r3⟩ := M
  simp only [ans] at hc
  have HC := Lib.hid hc
  clear hc
  go_enter Try.func82, Try.ntmps82
  go_wp2_with fail
  refine (HC.out _).mono ?_
  rintro e w1 ⟨rfl, hb1⟩
  have hB := (b3_start w (.cells #[.int .i64 n, .int .i64 d, .int .i64 0] 161) (.cells #[.int .i64 bn, .int .i64 bd] 53) (.cells #[.int .i64 0, .int .i64 0, .int .i64 0] 161)).step hb1
  clear hb1
  have hw1 := hB.size
  replace hB := hB.step (below_alloc (Below.refl _ _) (.cells #[.int .i64 r1, .int .i64 r2] 53))
  have kx := blk_new w1 (.cells #[.int .i64 r1, .int .i64 r2] 53)
  have c0 : (w1.alloc (.cells #[.int .i64 r1, .int .i64 r2] 53)).cell? ⟨w1.heap.size, 0, none⟩ = some (.int .i64 r1) := blk_cell kx 0
  have c1 : (w1.alloc (.cells #[.int .i64 r1, .int .i64 r2] 53)).cell? ⟨w1.heap.size, 1, none⟩ = some (.int .i64 r2) := blk_cell kx 1
  have hx_ := hB.b3
  have d_0 : (w1.alloc (.cells #[.int .i64 r1, .int .i64 r2] 53)).cell? ⟨w.heap.size + 1 + 1, 0, none⟩ = some (.int .i64 0) := blk_cell hx_ 0
  have df_0 : (w1.alloc (.cells #[.int .i64 r1, .int .i64 r2] 53)).frozen? ⟨w.heap.size + 1 + 1, 0, none⟩ = false := blk_frozen hx_ 0
  have d_1 : (w1.alloc (.cells #[.int .i64 r1, .int .i64 r2] 53)).cell? ⟨w.heap.size + 1 + 1, 1, none⟩ = some (.int .i64 0) := blk_cell hx_ 1
  have df_1 : (w1.alloc (.cells #[.int .i64 r1, .int .i64 r2] 53)).frozen? ⟨w.heap.size + 1 + 1, 1, none⟩ = false := blk_frozen hx_ 1
  have d_2 : (w1.alloc (.cells #[.int .i64 r1, .int .i64 r2] 53)).cell? ⟨w.heap.size + 1 + 1, 2, none⟩ = some (.int .i64 0) := blk_cell hx_ 2
  have df_2 : (w1.alloc (.cells #[.int .i64 r1, .int .i64 r2] 53)).frozen? ⟨w.heap.size + 1 + 1, 2, none⟩ = false := blk_frozen hx_ 2
  go_wp2_with fail
  have k_ := (blk_set (blk_set (blk_set hx_ 0 (.int .i64 r1)) 1 (.int .i64 r2)) 2 (.int .i64 r3))
  have hB_ := (Below.setCell (Below.setCell (Below.setCell hB.be (p := ⟨w.heap.size + 1 + 1, 0, none⟩) ((by show w.heap.size ≤ w.heap.size + 1 + 1; omega)) (.int .i64 r1)) (p := ⟨w.heap.size + 1 + 1, 1, none⟩) ((by show w.heap.size ≤ w.heap.size + 1 + 1; omega)) (.int .i64 r2)) (p := ⟨w.heap.size + 1 + 1, 2, none⟩) ((by show w.heap.size ≤ w.heap.size + 1 + 1; omega)) (.int .i64 r3))
  obtain ⟨w_, hw_⟩ : ∃ w_, w_ = (World.setCell (World.setCell (World.setCell (w1.alloc (.cells #[.int .i64 r1, .int .i64 r2] 53)) ⟨w.heap.size + 1 + 1, 0, none⟩ (.int .i64 r1)) ⟨w.heap.size + 1 + 1, 1, none⟩ (.int .i64 r2)) ⟨w.heap.size + 1 + 1, 2, none⟩ (.int .i64 r3)) := ⟨_, rfl⟩
  rw [← hw_] at k_ hB_
  try rw [← hw_]
  clear hw_
  have s_0 : w_.cell? ⟨w.heap.size + 1 + 1, 0, none⟩ = some (.int .i64 r1) := blk_cell k_ 0
  have s_1 : w_.cell? ⟨w.heap.size + 1 + 1, 1, none⟩ = some (.int .i64 r2) := blk_cell k_ 1
  have s_2 : w_.cell? ⟨w.heap.size + 1 + 1, 2, none⟩ = some (.int .i64 r3) := blk_cell k_ 2
  refine bodyPost_ret (by simp [results, Try.results82, go_sem, s_0, s_1, s_2]; try rfl) rfl ?_
  exact ⟨rfl, hB_⟩

set_option maxRecDepth 100000 in
set_option maxHeartbeats 2000000 in
theorem plus_off {n d e bn bd : Int} (he : e ≠ 0) (w : World) :
    Calls Try.prog 83 #[.agg #[.int .i64 n, .int .i64 d, .int .i64 e], .agg #[.int .i64 bn, .int .i64 bd]] w fun x w' => x = way (n, d, e) ∧ Below w.heap.size w w' := by
  have t1 : (e == 0) = false := by simp [he]
  have hB := b3_start w (.cells #[.int .i64 n, .int .i64 d, .int .i64 e] 161) (.cells #[.int .i64 bn, .int .i64 bd] 53) (.cells #[.int .i64 0, .int .i64 0, .int .i64 0] 161)
  have hx0 := hB.b3
  go_enter Try.func83, Try.ntmps83
  have a0 : (((w.alloc (.cells #[.int .i64 n, .int .i64 d, .int .i64 e] 161)).alloc (.cells #[.int .i64 bn, .int .i64 bd] 53)).alloc (.cells #[.int .i64 0, .int .i64 0, .int .i64 0] 161)).cell? ⟨w.heap.size, 0, none⟩ = some (.int .i64 n) := blk_cell hB.b1 0
  have a1 : (((w.alloc (.cells #[.int .i64 n, .int .i64 d, .int .i64 e] 161)).alloc (.cells #[.int .i64 bn, .int .i64 bd] 53)).alloc (.cells #[.int .i64 0, .int .i64 0, .int .i64 0] 161)).cell? ⟨w.heap.size, 1, none⟩ = some (.int .i64 d) := blk_cell hB.b1 1
  have a2 : (((w.alloc (.cells #[.int .i64 n, .int .i64 d, .int .i64 e] 161)).alloc (.cells #[.int .i64 bn, .int .i64 bd] 53)).alloc (.cells #[.int .i64 0, .int .i64 0, .int .i64 0] 161)).cell? ⟨w.heap.size, 2, none⟩ = some (.int .i64 e) := blk_cell hB.b1 2
  have b0 : (((w.alloc (.cells #[.int .i64 n, .int .i64 d, .int .i64 e] 161)).alloc (.cells #[.int .i64 bn, .int .i64 bd] 53)).alloc (.cells #[.int .i64 0, .int .i64 0, .int .i64 0] 161)).cell? ⟨w.heap.size + 1, 0, none⟩ = some (.int .i64 bn) := blk_cell hB.b2 0
  have b1 : (((w.alloc (.cells #[.int .i64 n, .int .i64 d, .int .i64 e] 161)).alloc (.cells #[.int .i64 bn, .int .i64 bd] 53)).alloc (.cells #[.int .i64 0, .int .i64 0, .int .i64 0] 161)).cell? ⟨w.heap.size + 1, 1, none⟩ = some (.int .i64 bd) := blk_cell hB.b2 1
  go_wp2_with fail
  have hR := b3_start w (.cells #[.int .i64 n, .int .i64 d, .int .i64 e] 161) (.cells #[.int .i64 bn, .int .i64 bd] 53) (.cells #[.int .i64 n, .int .i64 d, .int .i64 e] 161)
  obtain ⟨w_, hw_⟩ : ∃ w_, w_ = (((w.alloc (.cells #[.int .i64 n, .int .i64 d, .int .i64 e] 161)).alloc (.cells #[.int .i64 bn, .int .i64 bd] 53)).alloc (.cells #[.int .i64 n, .int .i64 d, .int .i64 e] 161)) := ⟨_, rfl⟩
  rw [← hw_] at hR ⊢
  clear hw_
  have s0 : w_.cell? ⟨w.heap.size + 1 + 1, 0, none⟩ = some (.int .i64 n) := blk_cell hR.b3 0
  have s1 : w_.cell? ⟨w.heap.size + 1 + 1, 1, none⟩ = some (.int .i64 d) := blk_cell hR.b3 1
  have s2 : w_.cell? ⟨w.heap.size + 1 + 1, 2, none⟩ = some (.int .i64 e) := blk_cell hR.b3 2
  refine bodyPost_ret (by simp [results, Try.results83, go_sem, s0, s1, s2]; try rfl) rfl ?_
  exact ⟨rfl, hR.be⟩

set_option maxRecDepth 100000 in
set_option maxHeartbeats 2000000 in
theorem plus_on {n d bn bd : Int} (h1 : I64 n) (h2 : I64 d) (h3 : I64 bn) (h4 : I64 bd) (w : World) :
    Calls Try.prog 83 #[.agg #[.int .i64 n, .int .i64 d, .int .i64 0], .agg #[.int .i64 bn, .int .i64 bd]] w fun x w' => x = way (told (Rt n d ∧ Rt bn bd) (addR n d bn bd)) ∧ Below w.heap.size w w' := by
  obtain ⟨M, hMM⟩ : ∃ M, told (Rt n d ∧ Rt bn bd) (addR n d bn bd) = M := ⟨_, rfl⟩
  have hc := fun w => add_calls h1 h2 h3 h4 w
  rw [hMM]
  simp only [hMM] at hc
  clear hMM
  obtain ⟨r1, r2, r3⟩ := M
  simp only [ans] at hc
  have HC := Lib.hid hc
  clear hc
  go_enter Try.func83, Try.ntmps83
  go_wp2_with fail
  refine (HC.out _).mono ?_
  rintro e w1 ⟨rfl, hb1⟩
  have hB := (b3_start w (.cells #[.int .i64 n, .int .i64 d, .int .i64 0] 161) (.cells #[.int .i64 bn, .int .i64 bd] 53) (.cells #[.int .i64 0, .int .i64 0, .int .i64 0] 161)).step hb1
  clear hb1
  have hw1 := hB.size
  replace hB := hB.step (below_alloc (Below.refl _ _) (.cells #[.int .i64 r1, .int .i64 r2] 53))
  have kx := blk_new w1 (.cells #[.int .i64 r1, .int .i64 r2] 53)
  have c0 : (w1.alloc (.cells #[.int .i64 r1, .int .i64 r2] 53)).cell? ⟨w1.heap.size, 0, none⟩ = some (.int .i64 r1) := blk_cell kx 0
  have c1 : (w1.alloc (.cells #[.int .i64 r1, .int .i64 r2] 53)).cell? ⟨w1.heap.size, 1, none⟩ = some (.int .i64 r2) := blk_cell kx 1
  have hx_ := hB.b3
  have d_0 : (w1.alloc (.cells #[.int .i64 r1, .int .i64 r2] 53)).cell? ⟨w.heap.size + 1 + 1, 0, none⟩ = some (.int .i64 0) := blk_cell hx_ 0
  have df_0 : (w1.alloc (.cells #[.int .i64 r1, .int .i64 r2] 53)).frozen? ⟨w.heap.size + 1 + 1, 0, none⟩ = false := blk_frozen hx_ 0
  have d_1 : (w1.alloc (.cells #[.int .i64 r1, .int .i64 r2] 53)).cell? ⟨w.heap.size + 1 + 1, 1, none⟩ = some (.int .i64 0) := blk_cell hx_ 1
  have df_1 : (w1.alloc (.cells #[.int .i64 r1, .int .i64 r2] 53)).frozen? ⟨w.heap.size + 1 + 1, 1, none⟩ = false := blk_frozen hx_ 1
  have d_2 : (w1.alloc (.cells #[.int .i64 r1, .int .i64 r2] 53)).cell? ⟨w.heap.size + 1 + 1, 2, none⟩ = some (.int .i64 0) := blk_cell hx_ 2
  have df_2 : (w1.alloc (.cells #[.int .i64 r1, .int .i64 r2] 53)).frozen? ⟨w.heap.size + 1 + 1, 2, none⟩ = false := blk_frozen hx_ 2
  go_wp2_with fail
  have k_ := (blk_set (blk_set (blk_set hx_ 0 (.int .i64 r1)) 1 (.int .i64 r2)) 2 (.int .i64 r3))
  have hB_ := (Below.setCell (Below.setCell (Below.setCell hB.be (p := ⟨w.heap.size + 1 + 1, 0, none⟩) ((by show w.heap.size ≤ w.heap.size + 1 + 1; omega)) (.int .i64 r1)) (p := ⟨w.heap.size + 1 + 1, 1, none⟩) ((by show w.heap.size ≤ w.heap.size + 1 + 1; omega)) (.int .i64 r2)) (p := ⟨w.heap.size + 1 + 1, 2, none⟩) ((by show w.heap.size ≤ w.heap.size + 1 + 1; omega)) (.int .i64 r3))
  obtain ⟨w_, hw_⟩ : ∃ w_, w_ = (World.setCell (World.setCell (World.setCell (w1.alloc (.cells #[.int .i64 r1, .int .i64 r2] 53)) ⟨w.heap.size + 1 + 1, 0, none⟩ (.int .i64 r1)) ⟨w.heap.size + 1 + 1, 1, none⟩ (.int .i64 r2)) ⟨w.heap.size + 1 + 1, 2, none⟩ (.int .i64 r3)) := ⟨_, rfl⟩
  rw [← hw_] at k_ hB_
  try rw [← hw_]
  clear hw_
  have s_0 : w_.cell? ⟨w.heap.size + 1 + 1, 0, none⟩ = some (.int .i64 r1) := blk_cell k_ 0
  have s_1 : w_.cell? ⟨w.heap.size + 1 + 1, 1, none⟩ = some (.int .i64 r2) := blk_cell k_ 1
  have s_2 : w_.cell? ⟨w.heap.size + 1 + 1, 2, none⟩ = some (.int .i64 r3) := blk_cell k_ 2
  refine bodyPost_ret (by simp [results, Try.results83, go_sem, s_0, s_1, s_2]; try rfl) rfl ?_
  exact ⟨rfl, hB_⟩
end Go.Proofs.Ytmnohhmnkmnikaa.Scale

/- The value of a field (scale.Value), walked. -/
set_option linter.unusedVariables false
set_option linter.unusedSimpArgs false
namespace Go.Proofs.Ytmnohhmnkmnikaa.Scale
open Go.RowKit Go.Proofs.YtmnohhmnkmnikaaW.PrintWords Go.Proofs.YtmnohhmnkmnikaaW.PrintLast Go.Proofs.Ytmnohhmnkmnikaa.Nats Go.Proofs.Ytmnohhmnkmnikaa.HeapKit Go.Proofs.Ytmnohhmnkmnikaa.PAdd Go.Proofs.Ytmnohhmnkmnikaa.RatPlain
/-- One more step of a value on its way. -/
def timesW (r : Int × Int × Int) (bn bd : Int) : Int × Int × Int := if r.2.2 = 0 then told (Rt r.1 r.2.1 ∧ Rt bn bd) (mulR r.1 r.2.1 bn bd) else r
def plusW (r : Int × Int × Int) (bn bd : Int) : Int × Int × Int := if r.2.2 = 0 then told (Rt r.1 r.2.1 ∧ Rt bn bd) (addR r.1 r.2.1 bn bd) else r
theorem low_I64 {n d : Int} (hn : I64 n) (hd : I64 d) (h0 : 0 < d) : I64 (low n d).1 ∧ I64 (low n d).2 := ⟨hn.tdiv (gcd_pos h0), hd.tdiv (gcd_pos h0)⟩
/-- A way within 64 bits. -/
def In (r : Int × Int × Int) : Prop := I64 r.1 ∧ I64 r.2.1
theorem told_In {P : Prop} [Decidable P] {r : Option (Int × Int)} (h : P → ∀ p, r = some p → I64 p.1 ∧ I64 p.2) : In (told P r) := by
  have h0 : I64 0 := by decide
  unfold told
  split
  · rename_i hp
    cases r with
    | none => exact ⟨h0, h0⟩
    | some p => exact h hp p rfl
  · exact ⟨h0, h0⟩
theorem mul_In {an ad bn bd : Int} (ra : Rt an ad) (rb : Rt bn bd) : ∀ p, mulR an ad bn bd = some p → I64 p.1 ∧ I64 p.2 := by
  intro p h
  simp only [mulR] at h
  split at h
  · rename_i hi
    cases h
    exact low_I64 hi.1 hi.2 (Int.mul_pos (exact_pos rb.1 (dvd_right _ _) (gcd_pos rb.1)) (exact_pos ra.1 (dvd_right _ _) (gcd_pos ra.1)))
  · cases h
theorem add_In {an ad bn bd : Int} (ra : Rt an ad) (rb : Rt bn bd) : ∀ p, addR an ad bn bd = some p → I64 p.1 ∧ I64 p.2 := by
  intro p h
  simp only [addR] at h
  split at h
  · rename_i hi
    cases h
    exact low_I64 hi.2.2.1 hi.2.2.2 (Int.mul_pos ra.1 (exact_pos rb.1 (dvd_right _ _) (gcd_pos rb.1)))
  · cases h
theorem timesW_In {r : Int × Int × Int} {bn bd : Int} (h : In r) : In (timesW r bn bd) := by
  unfold timesW
  split
  · exact told_In (fun hp => mul_In hp.1 hp.2)
  · exact h
theorem plusW_In {r : Int × Int × Int} {bn bd : Int} (h : In r) : In (plusW r bn bd) := by
  unfold plusW
  split
  · exact told_In (fun hp => add_In hp.1 hp.2)
  · exact h
theorem times_calls {r1 r2 r3 bn bd : Int} (h : In (r1, r2, r3)) (h3 : I64 bn) (h4 : I64 bd) (w : World) :
    Calls Try.prog 82 #[.agg #[.int .i64 r1, .int .i64 r2, .int .i64 r3], .agg #[.int .i64 bn, .int .i64 bd]] w fun x w' => x = way (timesW (r1, r2, r3) bn bd) ∧ Below w.heap.size w w' := by
  by_cases he : r3 = 0
  · subst he
    exact times_on h.1 h.2 h3 h4 w
  · have := times_off (n := r1) (d := r2) (bn := bn) (bd := bd) he w
    unfold timesW
    rw [if_neg (by exact he)]
    exact this
theorem plus_calls {r1 r2 r3 bn bd : Int} (h : In (r1, r2, r3)) (h3 : I64 bn) (h4 : I64 bd) (w : World) :
    Calls Try.prog 83 #[.agg #[.int .i64 r1, .int .i64 r2, .int .i64 r3], .agg #[.int .i64 bn, .int .i64 bd]] w fun x w' => x = way (plusW (r1, r2, r3) bn bd) ∧ Below w.heap.size w w' := by
  by_cases he : r3 = 0
  · subst he
    exact plus_on h.1 h.2 h3 h4 w
  · have := plus_off (n := r1) (d := r2) (bn := bn) (bd := bd) he w
    unfold plusW
    rw [if_neg (by exact he)]
    exact this
theorem right_calls {n d : Int} (hn : I64 n) (hd : I64 d) (w : World) : Calls Try.prog 36 #[.agg #[.int .i64 n, .int .i64 d]] w fun e w' => e = .returned (.bool (decide (Rt n d))) ∧ Below w.heap.size w w' :=
  ratio_Right.calls (big + 1) n d _ _ (right_eq hn hd (by omega))

set_option maxRecDepth 100000 in
set_option maxHeartbeats 4000000 in
theorem fright_calls (f0 : ByteArray) (f1 : Int) (f2 : ByteArray) (f3 sn sd on od : Int) (f8 : ByteArray) (hsn : I64 sn) (hsd : I64 sd) (hon : I64 on) (hod : I64 od) (w : World) :
    Calls Try.prog 81 #[.agg #[.string f0, .int .i64 f1, .string f2, .int .i64 f3, .int .i64 sn, .int .i64 sd, .int .i64 on, .int .i64 od, .string f8]] w fun e w' => e = .returned (.bool (decide (Rt sn sd ∧ Rt on od))) ∧ Below w.heap.size w w' := by
  have hr1 := fun w => right_calls hsn hsd w
  have hr2 := fun w => right_calls hon hod w
  have hP : decide (Rt sn sd ∧ Rt on od) = (decide (Rt sn sd) && decide (Rt on od)) := by simp
  rw [hP]
  obtain ⟨r1, e1⟩ : ∃ r1, decide (Rt sn sd) = r1 := ⟨_, rfl⟩
  obtain ⟨r2, e2⟩ : ∃ r2, decide (Rt on od) = r2 := ⟨_, rfl⟩
  simp only [e1] at hr1
  simp only [e2] at hr2
  rw [e1, e2]
  clear hP e1 e2
  have HR1 := Lib.hid hr1
  have HR2 := Lib.hid hr2
  clear hr1 hr2
  have hB := b1_start w (.cells #[.string f0, .int .i64 f1, .string f2, .int .i64 f3, .int .i64 sn, .int .i64 sd, .int .i64 on, .int .i64 od, .string f8] 55)
  go_enter Try.func81, Try.ntmps81
  go_wp2_with fail
  refine (HR1.out _).mono ?_
  rintro e w1 ⟨rfl, hb1⟩
  replace hB := hB.step hb1
  clear hb1
  have a0 : w1.cell? ⟨w.heap.size, 0, none⟩ = some (.string f0) := blk_cell hB.b1 0
  have a1 : w1.cell? ⟨w.heap.size, 1, none⟩ = some (.int .i64 f1) := blk_cell hB.b1 1
  have a2 : w1.cell? ⟨w.heap.size, 2, none⟩ = some (.string f2) := blk_cell hB.b1 2
  have a3 : w1.cell? ⟨w.heap.size, 3, none⟩ = some (.int .i64 f3) := blk_cell hB.b1 3
  have a4 : w1.cell? ⟨w.heap.size, 4, none⟩ = some (.int .i64 sn) := blk_cell hB.b1 4
  have a5 : w1.cell? ⟨w.heap.size, 5, none⟩ = some (.int .i64 sd) := blk_cell hB.b1 5
  have a6 : w1.cell? ⟨w.heap.size, 6, none⟩ = some (.int .i64 on) := blk_cell hB.b1 6
  have a7 : w1.cell? ⟨w.heap.size, 7, none⟩ = some (.int .i64 od) := blk_cell hB.b1 7
  have a8 : w1.cell? ⟨w.heap.size, 8, none⟩ = some (.string f8) := blk_cell hB.b1 8
  cases r1 with
  | false =>
    go_wp2_with fail
    go_ret
    exact ⟨by simp, hB.be⟩
  | true =>
    go_wp2_with fail
    refine (HR2.out _).mono ?_
    rintro e w2 ⟨rfl, hb2⟩
    replace hB := hB.step hb2
    clear hb2
    go_wp2_with fail
    go_ret
    exact ⟨by simp, hB.be⟩

/-- The value of a raw number, what went wrong. -/
def valueR (sn sd on od raw : Int) : Int × Int × Int := if Rt sn sd ∧ Rt on od then plusW (timesW (raw, 1, 0) sn sd) on od else (0, 0, 1)

set_option maxRecDepth 100000 in
set_option maxHeartbeats 4000000 in
theorem value_wrong (f0 : ByteArray) (f1 : Int) (f2 : ByteArray) (f3 sn sd on od : Int) (f8 : ByteArray) (raw : Int) (hsn : I64 sn) (hsd : I64 sd) (hon : I64 on) (hod : I64 od) (hr : ¬ (Rt sn sd ∧ Rt on od)) (w : World) :
    Calls Try.prog 66 #[.agg #[.string f0, .int .i64 f1, .string f2, .int .i64 f3, .int .i64 sn, .int .i64 sd, .int .i64 on, .int .i64 od, .string f8], .int .i64 raw] w fun e w' => e = ans (0, 0, 1) ∧ Below w.heap.size w w' := by
  have hc := fun w => fright_calls f0 f1 f2 f3 sn sd on od f8 hsn hsd hon hod w
  simp only [decide_eq_false hr] at hc
  have HC := Lib.hid hc
  clear hc
  go_enter Try.func66, Try.ntmps66
  go_wp2_with fail
  refine (HC.out _).mono ?_
  rintro e w1 ⟨rfl, hb1⟩
  have hB := (b2_start w (.cells #[.string f0, .int .i64 f1, .string f2, .int .i64 f3, .int .i64 sn, .int .i64 sd, .int .i64 on, .int .i64 od, .string f8] 55) (.cells #[.int .i64 0, .int .i64 0] 53)).step hb1
  clear hb1
  have hx_ := hB.b2
  have d_0 : w1.cell? ⟨w.heap.size + 1, 0, none⟩ = some (.int .i64 0) := blk_cell hx_ 0
  have df_0 : w1.frozen? ⟨w.heap.size + 1, 0, none⟩ = false := blk_frozen hx_ 0
  have d_1 : w1.cell? ⟨w.heap.size + 1, 1, none⟩ = some (.int .i64 0) := blk_cell hx_ 1
  have df_1 : w1.frozen? ⟨w.heap.size + 1, 1, none⟩ = false := blk_frozen hx_ 1
  go_wp2_with fail
  have k_ := (blk_set (blk_set hx_ 0 (.int .i64 0)) 1 (.int .i64 0))
  have hB_ := (Below.setCell (Below.setCell hB.be (p := ⟨w.heap.size + 1, 0, none⟩) ((by show w.heap.size ≤ w.heap.size + 1; omega)) (.int .i64 0)) (p := ⟨w.heap.size + 1, 1, none⟩) ((by show w.heap.size ≤ w.heap.size + 1; omega)) (.int .i64 0))
  obtain ⟨w_, hw_⟩ : ∃ w_, w_ = (World.setCell (World.setCell w1 ⟨w.heap.size + 1, 0, none⟩ (.int .i64 0)) ⟨w.heap.size + 1, 1, none⟩ (.int .i64 0)) := ⟨_, rfl⟩
  rw [← hw_] at k_ hB_
  try rw [← hw_]
  clear hw_
  have s_0 : w_.cell? ⟨w.heap.size + 1, 0, none⟩ = some (.int .i64 0) := blk_cell k_ 0
  have s_1 : w_.cell? ⟨w.heap.size + 1, 1, none⟩ = some (.int .i64 0) := blk_cell k_ 1
  refine bodyPost_ret (by simp [results, Try.results66, go_sem, s_0, s_1]; try rfl) rfl ?_
  exact ⟨rfl, hB_⟩

set_option maxRecDepth 100000 in
set_option maxHeartbeats 4000000 in
theorem value_right (f0 : ByteArray) (f1 : Int) (f2 : ByteArray) (f3 sn sd on od : Int) (f8 : ByteArray) (raw : Int) (hsn : I64 sn) (hsd : I64 sd) (hon : I64 on) (hod : I64 od) (hraw : I64 raw) (hr : Rt sn sd ∧ Rt on od) (w : World) :
    Calls Try.prog 66 #[.agg #[.string f0, .int .i64 f1, .string f2, .int .i64 f3, .int .i64 sn, .int .i64 sd, .int .i64 on, .int .i64 od, .string f8], .int .i64 raw] w fun e w' => e = ans (plusW (timesW (raw, 1, 0) sn sd) on od) ∧ Below w.heap.size w w' := by
  have hc := fun w => fright_calls f0 f1 f2 f3 sn sd on od f8 hsn hsd hon hod w
  simp only [decide_eq_true hr] at hc
  have i0 : In (raw, 1, 0) := ⟨hraw, (by decide : I64 1)⟩
  have i1 : In (timesW (raw, 1, 0) sn sd) := timesW_In i0
  have ht := fun w => times_calls (r1 := raw) (r2 := 1) (r3 := 0) i0 hsn hsd w
  obtain ⟨⟨r1, r2, r3⟩, hr1⟩ : ∃ r, timesW (raw, 1, 0) sn sd = r := ⟨_, rfl⟩
  rw [hr1] at i1
  simp only [hr1] at ht
  have hp := fun w => plus_calls (r1 := r1) (r2 := r2) (r3 := r3) i1 hon hod w
  rw [hr1]
  obtain ⟨⟨q1, q2, q3⟩, hq1⟩ : ∃ r, plusW (r1, r2, r3) on od = r := ⟨_, rfl⟩
  simp only [hq1] at hp
  rw [hq1]
  clear hr1 hq1
  simp only [way] at ht hp
  have HC := Lib.hid hc
  have HT := Lib.hid ht
  have HP := Lib.hid hp
  clear hc ht hp
  go_enter Try.func66, Try.ntmps66
  go_wp2_with fail
  refine (HC.out _).mono ?_
  rintro e w1 ⟨rfl, hb1⟩
  have hB := (b2_start w (.cells #[.string f0, .int .i64 f1, .string f2, .int .i64 f3, .int .i64 sn, .int .i64 sd, .int .i64 on, .int .i64 od, .string f8] 55) (.cells #[.int .i64 0, .int .i64 0] 53)).step hb1
  clear hb1
  go_wp2_with fail
  refine start_ (n := 11) (S := fun wx => B2 w wx (.cells #[.string f0, .int .i64 f1, .string f2, .int .i64 f3, .int .i64 sn, .int .i64 sd, .int .i64 on, .int .i64 od, .string f8] 55) (.cells #[.int .i64 0, .int .i64 0] 53)) (ds := []) #[false, false, false, false, false, false, false, false, false, false, false] (by kernel_rfl) rfl rfl (hB.step (below_drew (Below.refl _ _))) (fun hHeld => ?_)
  refine pure_ (i := 0) (N := some 11) (v := ?_) (a' := ?_) #[true, false, false, false, false, false, false, false, false, false, false] rfl rfl (by kernel_rfl) (fun _ _ _ h => h) (Or.inl ⟨by rfl, ?_⟩) ?_ ?_
  rotate_left
  · intro w'
    go_simp
    try with_reducible rfl
  rotate_left
  · simp only [Act.put, List.setIfInBounds_toArray, List.set_cons_zero, List.set_cons_succ, i64_w, i32_w]
    rfl
  refine pure_ (i := 1) (N := some 12) (v := ?_) (a' := ?_) #[true, true, false, false, false, false, false, false, false, false, false] rfl rfl (by kernel_rfl) (fun _ _ _ h => h) (Or.inl ⟨by rfl, ?_⟩) ?_ ?_
  rotate_left
  · intro w'
    go_simp
    try with_reducible rfl
  rotate_left
  · simp only [Act.put, List.setIfInBounds_toArray, List.set_cons_zero, List.set_cons_succ, i64_w, i32_w]
    rfl
  refine pure_ (i := 2) (N := some 13) (v := ?_) (a' := ?_) #[true, true, true, false, false, false, false, false, false, false, false] rfl rfl (by kernel_rfl) (fun _ _ _ h => h) (Or.inl ⟨by rfl, ?_⟩) ?_ ?_
  rotate_left
  · intro w'
    go_simp
    try with_reducible rfl
  rotate_left
  · simp only [Act.put, List.setIfInBounds_toArray, List.set_cons_zero, List.set_cons_succ, i64_w, i32_w]
    rfl
  refine pure_ (i := 3) (N := some 14) (v := ?_) (a' := ?_) #[true, true, true, true, false, false, false, false, false, false, false] rfl rfl (by kernel_rfl) (fun _ _ _ h => h) (Or.inl ⟨by rfl, ?_⟩) ?_ ?_
  rotate_left
  · intro w'
    go_simp
    try with_reducible rfl
  rotate_left
  · simp only [Act.put, List.setIfInBounds_toArray, List.set_cons_zero, List.set_cons_succ, i64_w, i32_w]
    rfl
  refine take_ (i := 4) (N := some 15) (v := ?_) (a' := ?_) #[true, true, true, true, true, false, false, false, false, false, false] rfl rfl (by kernel_rfl) (fun _ _ _ h => h) (Or.inl ⟨by rfl, ?_⟩) hHeld ?_ ?_
  rotate_left
  · rintro w' hh
    have s0 : w'.cell? ⟨w.heap.size, 0, none⟩ = some (.string f0) := blk_cell hh.b1 0
    have s1 : w'.cell? ⟨w.heap.size, 1, none⟩ = some (.int .i64 f1) := blk_cell hh.b1 1
    have s2 : w'.cell? ⟨w.heap.size, 2, none⟩ = some (.string f2) := blk_cell hh.b1 2
    have s3 : w'.cell? ⟨w.heap.size, 3, none⟩ = some (.int .i64 f3) := blk_cell hh.b1 3
    have s4 : w'.cell? ⟨w.heap.size, 4, none⟩ = some (.int .i64 sn) := blk_cell hh.b1 4
    have s5 : w'.cell? ⟨w.heap.size, 5, none⟩ = some (.int .i64 sd) := blk_cell hh.b1 5
    have s6 : w'.cell? ⟨w.heap.size, 6, none⟩ = some (.int .i64 on) := blk_cell hh.b1 6
    have s7 : w'.cell? ⟨w.heap.size, 7, none⟩ = some (.int .i64 od) := blk_cell hh.b1 7
    have s8 : w'.cell? ⟨w.heap.size, 8, none⟩ = some (.string f8) := blk_cell hh.b1 8
    go_simp
    with_reducible rfl
  rotate_left
  · simp only [Act.put, List.setIfInBounds_toArray, List.set_cons_zero, List.set_cons_succ, i64_w, i32_w]
    rfl
  refine pure_ (i := 6) (N := some 17) (v := ?_) (a' := ?_) #[true, true, true, true, true, false, true, false, false, false, false] rfl rfl (by kernel_rfl) (fun _ _ _ h => h) (Or.inl ⟨by rfl, ?_⟩) ?_ ?_
  rotate_left
  · intro w'
    go_simp
    try with_reducible rfl
  rotate_left
  · simp only [Act.put, List.setIfInBounds_toArray, List.set_cons_zero, List.set_cons_succ, i64_w, i32_w]
    rfl
  refine take_ (i := 7) (N := some 18) (v := ?_) (a' := ?_) #[true, true, true, true, true, false, true, true, false, false, false] rfl rfl (by kernel_rfl) (fun _ _ _ h => h) (Or.inl ⟨by rfl, ?_⟩) hHeld ?_ ?_
  rotate_left
  · rintro w' hh
    have s0 : w'.cell? ⟨w.heap.size, 0, none⟩ = some (.string f0) := blk_cell hh.b1 0
    have s1 : w'.cell? ⟨w.heap.size, 1, none⟩ = some (.int .i64 f1) := blk_cell hh.b1 1
    have s2 : w'.cell? ⟨w.heap.size, 2, none⟩ = some (.string f2) := blk_cell hh.b1 2
    have s3 : w'.cell? ⟨w.heap.size, 3, none⟩ = some (.int .i64 f3) := blk_cell hh.b1 3
    have s4 : w'.cell? ⟨w.heap.size, 4, none⟩ = some (.int .i64 sn) := blk_cell hh.b1 4
    have s5 : w'.cell? ⟨w.heap.size, 5, none⟩ = some (.int .i64 sd) := blk_cell hh.b1 5
    have s6 : w'.cell? ⟨w.heap.size, 6, none⟩ = some (.int .i64 on) := blk_cell hh.b1 6
    have s7 : w'.cell? ⟨w.heap.size, 7, none⟩ = some (.int .i64 od) := blk_cell hh.b1 7
    have s8 : w'.cell? ⟨w.heap.size, 8, none⟩ = some (.string f8) := blk_cell hh.b1 8
    go_simp
    with_reducible rfl
  rotate_left
  · simp only [Act.put, List.setIfInBounds_toArray, List.set_cons_zero, List.set_cons_succ, i64_w, i32_w]
    rfl
  refine join_ (σ := Nat) 1 #[true, true, true, true, true, true, true, true, true, true, false] (fun s => [(16, .agg #[.int .i64 r1, .int .i64 r2, .int .i64 r3]), (19, .agg #[.int .i64 q1, .int .i64 q2, .int .i64 q3]), (6, .pointer (some ⟨s, 0, none⟩))]) (fun s wx => (B2 w wx (.cells #[.string f0, .int .i64 f1, .string f2, .int .i64 f3, .int .i64 sn, .int .i64 sd, .int .i64 on, .int .i64 od, .string f8] 55) (.cells #[.int .i64 0, .int .i64 0] 53)) ∧ wx.heap[s]? = some (.cells #[.int .i64 0, .int .i64 0, .int .i64 0] 161 (0, 0)) ∧ w.heap.size + 2 ≤ s ∧ True) ?_ ?hall
  case hall =>
    intro hj_5_8_9
    refine join_ (σ := Nat) 2 #[true, true, true, true, true, true, true, true, true, false, false] (fun s => [(16, .agg #[.int .i64 r1, .int .i64 r2, .int .i64 r3]), (19, .agg #[.int .i64 q1, .int .i64 q2, .int .i64 q3])]) (fun s wx => (B2 w wx (.cells #[.string f0, .int .i64 f1, .string f2, .int .i64 f3, .int .i64 sn, .int .i64 sd, .int .i64 on, .int .i64 od, .string f8] 55) (.cells #[.int .i64 0, .int .i64 0] 53)) ∧ True) ?c_5_8 ?_
    case c_5_8 =>
      rintro p9 wN hF
      obtain ⟨hHeld, _⟩ := hF
      refine norm_ (a' := ?_) ?_ ?_
      rotate_left
      · simp only [putAll, Act.put, List.setIfInBounds_toArray, List.set_cons_zero, List.set_cons_succ, i64_w, i32_w]
        rfl
      refine one_ (i := 9) (N := some 6) #[true, true, true, true, true, true, true, true, true, true, false] rfl rfl (by kernel_rfl) (by decide) (fun K hK => ?_)
      refine box_step (by rfl) (N := 6) rfl (cs := #[.int .i64 0, .int .i64 0, .int .i64 0]) (t := 161) ?_ ?_
      · first
          | (go_simp; done)
          | (go_simp; rfl)
      intro p9 hp_ w_ hbox_ hB_
      have hS_ := (hHeld.step hB_)
      have hz_ := hHeld.size
      refine hK.out _ _ hS_ (fun hHeld_ => ?_)
      clear hK K
      exact norm_ (by rfl) (hj_5_8_9 (p9) w_ ⟨hS_, hbox_, by show w.heap.size + 2 ≤ p9; omega, trivial⟩)
    intro hj_5_8
    refine join_ (σ := Nat) 2 #[true, true, true, true, true, true, true, true, false, true, false] (fun s => [(16, .agg #[.int .i64 r1, .int .i64 r2, .int .i64 r3]), (6, .pointer (some ⟨s, 0, none⟩))]) (fun s wx => (B2 w wx (.cells #[.string f0, .int .i64 f1, .string f2, .int .i64 f3, .int .i64 sn, .int .i64 sd, .int .i64 on, .int .i64 od, .string f8] 55) (.cells #[.int .i64 0, .int .i64 0] 53)) ∧ wx.heap[s]? = some (.cells #[.int .i64 0, .int .i64 0, .int .i64 0] 161 (0, 0)) ∧ w.heap.size + 2 ≤ s ∧ True) ?c_5_9 ?_
    case c_5_9 =>
      rintro p9 wN hF
      obtain ⟨hHeld, hb9, hl9, _⟩ := hF
      replace hb9 : wN.heap[p9]? = some (.cells #[.int .i64 0, .int .i64 0, .int .i64 0] 161 (0, 0)) := hb9
      replace hl9 : w.heap.size + 2 ≤ p9 := hl9
      refine norm_ (a' := ?_) ?_ ?_
      rotate_left
      · simp only [putAll, Act.put, List.setIfInBounds_toArray, List.set_cons_zero, List.set_cons_succ, i64_w, i32_w]
        rfl
      refine one_ (i := 8) (N := some 19) #[true, true, true, true, true, true, true, true, true, true, false] rfl rfl (by kernel_rfl) (by decide) (fun K hK => ?_)
      refine goes_ Try.func83 (by kernel_rfl) rfl #[.agg #[.int .i64 r1, .int .i64 r2, .int .i64 r3], .agg #[.int .i64 on, .int .i64 od]] (by rfl) rfl rfl (by (try simp only [List.map_toArray, List.map_cons, List.map_nil]); first | done | rfl) ?_
      refine (HP.out _).mono ?_
      rintro e_ w_ ⟨rfl, hb_⟩
      refine ⟨_, rfl, ?_⟩
      have hS_ := (hHeld.step hb_)
      refine hK.out _ _ hS_ (fun hHeld_ => ?_)
      clear hK K
      exact norm_ (by rfl) (hj_5_8_9 (p9) w_ ⟨hS_, blk_below hb9 hb_, hl9, trivial⟩)
    intro hj_5_9
    refine join_ (σ := Nat) 3 #[true, true, true, true, true, true, true, true, false, false, false] (fun s => [(16, .agg #[.int .i64 r1, .int .i64 r2, .int .i64 r3])]) (fun s wx => (B2 w wx (.cells #[.string f0, .int .i64 f1, .string f2, .int .i64 f3, .int .i64 sn, .int .i64 sd, .int .i64 on, .int .i64 od, .string f8] 55) (.cells #[.int .i64 0, .int .i64 0] 53)) ∧ True) ?c_5 ?_
    case c_5 =>
      rintro p9 wN hF
      obtain ⟨hHeld, _⟩ := hF
      refine norm_ (a' := ?_) ?_ ?_
      rotate_left
      · simp only [putAll, Act.put, List.setIfInBounds_toArray, List.set_cons_zero, List.set_cons_succ, i64_w, i32_w]
        rfl
      refine two_ (i := 8) (j := 9) (Ni := some 19) (Nj := some 6) #[true, true, true, true, true, true, true, true, true, false, false] #[true, true, true, true, true, true, true, true, false, true, false] rfl rfl rfl rfl (by kernel_rfl) (by decide) (by decide) (fun K hK => ?_) (fun K hK => ?_)
      · refine goes_ Try.func83 (by kernel_rfl) rfl #[.agg #[.int .i64 r1, .int .i64 r2, .int .i64 r3], .agg #[.int .i64 on, .int .i64 od]] (by rfl) rfl rfl (by (try simp only [List.map_toArray, List.map_cons, List.map_nil]); first | done | rfl) ?_
        refine (HP.out _).mono ?_
        rintro e_ w_ ⟨rfl, hb_⟩
        refine ⟨_, rfl, ?_⟩
        have hS_ := (hHeld.step hb_)
        refine hK.out _ _ hS_ (fun hHeld_ => ?_)
        clear hK K
        exact norm_ (by rfl) (hj_5_8 (0) w_ ⟨hS_, trivial⟩)
      · refine box_step (by rfl) (N := 6) rfl (cs := #[.int .i64 0, .int .i64 0, .int .i64 0]) (t := 161) ?_ ?_
        · first
            | (go_simp; done)
            | (go_simp; rfl)
        intro p9 hp_ w_ hbox_ hB_
        have hS_ := (hHeld.step hB_)
        have hz_ := hHeld.size
        refine hK.out _ _ hS_ (fun hHeld_ => ?_)
        clear hK K
        exact norm_ (by rfl) (hj_5_9 (p9) w_ ⟨hS_, hbox_, by show w.heap.size + 2 ≤ p9; omega, trivial⟩)
    intro hj_5
    refine join_ (σ := Nat) 3 #[true, true, true, true, true, false, true, true, false, true, false] (fun s => [(6, .pointer (some ⟨s, 0, none⟩))]) (fun s wx => (B2 w wx (.cells #[.string f0, .int .i64 f1, .string f2, .int .i64 f3, .int .i64 sn, .int .i64 sd, .int .i64 on, .int .i64 od, .string f8] 55) (.cells #[.int .i64 0, .int .i64 0] 53)) ∧ wx.heap[s]? = some (.cells #[.int .i64 0, .int .i64 0, .int .i64 0] 161 (0, 0)) ∧ w.heap.size + 2 ≤ s ∧ True) ?c_9 ?_
    case c_9 =>
      rintro p9 wN hF
      obtain ⟨hHeld, hb9, hl9, _⟩ := hF
      replace hb9 : wN.heap[p9]? = some (.cells #[.int .i64 0, .int .i64 0, .int .i64 0] 161 (0, 0)) := hb9
      replace hl9 : w.heap.size + 2 ≤ p9 := hl9
      refine norm_ (a' := ?_) ?_ ?_
      rotate_left
      · simp only [putAll, Act.put, List.setIfInBounds_toArray, List.set_cons_zero, List.set_cons_succ, i64_w, i32_w]
        rfl
      refine one_ (i := 5) (N := some 16) #[true, true, true, true, true, true, true, true, false, true, false] rfl rfl (by kernel_rfl) (by decide) (fun K hK => ?_)
      refine goes_ Try.func82 (by kernel_rfl) rfl #[.agg #[.int .i64 raw, .int .i64 1, .int .i64 0], .agg #[.int .i64 sn, .int .i64 sd]] (by rfl) rfl rfl (by (try simp only [List.map_toArray, List.map_cons, List.map_nil]); first | done | rfl) ?_
      refine (HT.out _).mono ?_
      rintro e_ w_ ⟨rfl, hb_⟩
      refine ⟨_, rfl, ?_⟩
      have hS_ := (hHeld.step hb_)
      refine hK.out _ _ hS_ (fun hHeld_ => ?_)
      clear hK K
      exact norm_ (by rfl) (hj_5_9 (p9) w_ ⟨hS_, blk_below hb9 hb_, hl9, trivial⟩)
    intro hj_9
    refine two_ (i := 5) (j := 9) (Ni := some 16) (Nj := some 6) #[true, true, true, true, true, true, true, true, false, false, false] #[true, true, true, true, true, false, true, true, false, true, false] rfl rfl rfl rfl (by kernel_rfl) (by decide) (by decide) (fun K hK => ?_) (fun K hK => ?_)
    · refine goes_ Try.func82 (by kernel_rfl) rfl #[.agg #[.int .i64 raw, .int .i64 1, .int .i64 0], .agg #[.int .i64 sn, .int .i64 sd]] (by rfl) rfl rfl (by (try simp only [List.map_toArray, List.map_cons, List.map_nil]); first | done | rfl) ?_
      refine (HT.out _).mono ?_
      rintro e_ w_ ⟨rfl, hb_⟩
      refine ⟨_, rfl, ?_⟩
      have hS_ := (hHeld.step hb_)
      refine hK.out _ _ hS_ (fun hHeld_ => ?_)
      clear hK K
      exact norm_ (by rfl) (hj_5 (0) w_ ⟨hS_, trivial⟩)
    · refine box_step (by rfl) (N := 6) rfl (cs := #[.int .i64 0, .int .i64 0, .int .i64 0]) (t := 161) ?_ ?_
      · first
          | (go_simp; done)
          | (go_simp; rfl)
      intro p9 hp_ w_ hbox_ hB_
      have hS_ := (hHeld.step hB_)
      have hz_ := hHeld.size
      refine hK.out _ _ hS_ (fun hHeld_ => ?_)
      clear hK K
      exact norm_ (by rfl) (hj_9 (p9) w_ ⟨hS_, hbox_, by show w.heap.size + 2 ≤ p9; omega, trivial⟩)
  clear hHeld
  rintro p9 wN hF
  obtain ⟨hHeld, hb9, hl9, _⟩ := hF
  replace hb9 : wN.heap[p9]? = some (.cells #[.int .i64 0, .int .i64 0, .int .i64 0] 161 (0, 0)) := hb9
  replace hl9 : w.heap.size + 2 ≤ p9 := hl9
  refine norm_ (a' := ?_) ?_ ?_
  rotate_left
  · simp only [putAll, Act.put, List.setIfInBounds_toArray, List.set_cons_zero, List.set_cons_succ, i64_w, i32_w]
    rfl
  have c0 : wN.cell? ⟨p9, 0, none⟩ = some (.int .i64 0) := blk_cell hb9 0
  have cf0 : wN.frozen? ⟨p9, 0, none⟩ = false := blk_frozen hb9 0
  have c1 : wN.cell? ⟨p9, 1, none⟩ = some (.int .i64 0) := blk_cell hb9 1
  have cf1 : wN.frozen? ⟨p9, 1, none⟩ = false := blk_frozen hb9 1
  have c2 : wN.cell? ⟨p9, 2, none⟩ = some (.int .i64 0) := blk_cell hb9 2
  have cf2 : wN.frozen? ⟨p9, 2, none⟩ = false := blk_frozen hb9 2
  refine one_ (i := 10) (N := none) #[true, true, true, true, true, true, true, true, true, true, true] rfl rfl (by kernel_rfl) (by decide) (fun K hK => ?_)
  refine skip_ (w1 := ((wN.setCell ⟨p9, 0, none⟩ (.int .i64 q1)).setCell ⟨p9, 1, none⟩ (.int .i64 q2)).setCell ⟨p9, 2, none⟩ (.int .i64 q3)) (by rfl) rfl ?_ ?_
  · first
    | (go_simp; done)
    | (go_simp; rfl)
  refine hK.out _ _ (((hHeld.far (p := ⟨p9, 0, none⟩) hl9 (.int .i64 q1)).far (p := ⟨p9, 1, none⟩) hl9 (.int .i64 q2)).far (p := ⟨p9, 2, none⟩) hl9 (.int .i64 q3)) (fun hHeld => ?_)
  clear hK K
  refine norm_ (a' := ?_) ?_ ?_
  rotate_left
  · rfl
  refine done_ (by kernel_rfl) ?_
  have kx := blk_set (blk_set (blk_set hb9 0 (.int .i64 q1)) 1 (.int .i64 q2)) 2 (.int .i64 q3)
  clear hB
  obtain ⟨w4, hw4⟩ : ∃ w4, w4 = ((wN.setCell ⟨p9, 0, none⟩ (.int .i64 q1)).setCell ⟨p9, 1, none⟩ (.int .i64 q2)).setCell ⟨p9, 2, none⟩ (.int .i64 q3) := ⟨_, rfl⟩
  rw [← hw4] at kx hHeld ⊢
  have hB := hHeld
  clear hHeld hw4 hb9 c0 c1 c2 cf0 cf1 cf2
  have hn9 : w.heap.size + 1 ≠ p9 := by omega
  have hn9' : p9 ≠ w.heap.size + 1 := by omega
  go_wp2_with fail
  have hx := hB.b2
  have c0 : w4.cell? ⟨p9, 0, none⟩ = some (.int .i64 q1) := blk_cell kx 0
  have c1 : w4.cell? ⟨p9, 1, none⟩ = some (.int .i64 q2) := blk_cell kx 1
  have c2 : w4.cell? ⟨p9, 2, none⟩ = some (.int .i64 q3) := blk_cell kx 2
  have d0 : w4.cell? ⟨w.heap.size + 1, 0, none⟩ = some (.int .i64 0) := blk_cell hx 0
  have df0 : w4.frozen? ⟨w.heap.size + 1, 0, none⟩ = false := blk_frozen hx 0
  have d1 : w4.cell? ⟨w.heap.size + 1, 1, none⟩ = some (.int .i64 0) := blk_cell hx 1
  have df1 : w4.frozen? ⟨w.heap.size + 1, 1, none⟩ = false := blk_frozen hx 1
  go_region
  have k7 := blk_drew (blk_set (blk_set hx 0 (.int .i64 q1)) 1 (.int .i64 q2))
  have hB7 := below_drew1 ((hB.be.setCell (p := ⟨w.heap.size + 1, 0, none⟩) (by show w.heap.size ≤ w.heap.size + 1; omega) (.int .i64 q1)).setCell (p := ⟨w.heap.size + 1, 1, none⟩) (by show w.heap.size ≤ w.heap.size + 1; omega) (.int .i64 q2))
  obtain ⟨w7, hw7⟩ : ∃ w7, w7 = ((w4.setCell ⟨w.heap.size + 1, 0, none⟩ (.int .i64 q1)).setCell ⟨w.heap.size + 1, 1, none⟩ (.int .i64 q2)).drew := ⟨_, rfl⟩
  rw [← hw7] at k7 hB7
  try rw [← hw7]
  clear hw7
  have s0 : w7.cell? ⟨w.heap.size + 1, 0, none⟩ = some (.int .i64 q1) := blk_cell k7 0
  have s1 : w7.cell? ⟨w.heap.size + 1, 1, none⟩ = some (.int .i64 q2) := blk_cell k7 1
  go_wp2_with fail
  refine bodyPost_ret (by simp [results, Try.results66, go_sem, s0, s1]; try rfl) rfl ?_
  exact ⟨rfl, hB7⟩

theorem value_calls (f0 : ByteArray) (f1 : Int) (f2 : ByteArray) (f3 sn sd on od : Int) (f8 : ByteArray) (raw : Int) (hsn : I64 sn) (hsd : I64 sd) (hon : I64 on) (hod : I64 od) (hraw : I64 raw) (w : World) :
    Calls Try.prog 66 #[.agg #[.string f0, .int .i64 f1, .string f2, .int .i64 f3, .int .i64 sn, .int .i64 sd, .int .i64 on, .int .i64 od, .string f8], .int .i64 raw] w fun e w' => e = ans (valueR sn sd on od raw) ∧ Below w.heap.size w w' := by
  unfold valueR
  by_cases hr : Rt sn sd ∧ Rt on od
  · rw [if_pos hr]
    exact value_right f0 f1 f2 f3 sn sd on od f8 raw hsn hsd hon hod hraw hr w
  · rw [if_neg hr]
    exact value_wrong f0 f1 f2 f3 sn sd on od f8 raw hsn hsd hon hod hr w
end Go.Proofs.Ytmnohhmnkmnikaa.Scale

/- The raw number of a value (scale.Raw), walked. -/
set_option linter.unusedVariables false
set_option linter.unusedSimpArgs false
namespace Go.Proofs.Ytmnohhmnkmnikaa.Scale
open Go.RowKit Go.Proofs.YtmnohhmnkmnikaaW.PrintWords Go.Proofs.YtmnohhmnkmnikaaW.PrintLast Go.Proofs.Ytmnohhmnkmnikaa.Nats Go.Proofs.Ytmnohhmnkmnikaa.HeapKit Go.Proofs.Ytmnohhmnkmnikaa.PAdd Go.Proofs.Ytmnohhmnkmnikaa.RatPlain

end Go.Proofs.Ytmnohhmnkmnikaa.Scale

/- What fractions of 64 bits are worth, in plain Lean. -/
set_option linter.unusedVariables false
set_option linter.unusedSimpArgs false
namespace Go.Proofs.Ytmnohhmnkmnikaa.RatPlain

/-- What a fraction is worth. -/
def val (n d : Int) : Rat := Rat.divInt n d
theorem exact (a b : Int) (h : a ∣ b) : a * b.tdiv a = b := Int.mul_tdiv_cancel' h
theorem low_val (n : Int) {d : Int} (h0 : 0 < d) : val (low n d).1 (low n d).2 = val n d := by
  have hg := gcd_pos (a := n) h0
  have e1 := exact _ _ (dvd_left n d)
  have e2 := exact _ _ (dvd_right n d)
  have h := Rat.divInt_mul_left (n := (low n d).1) (d := (low n d).2) (a := ((Int.gcd n d : Nat) : Int)) (by omega)
  unfold val
  rw [← h]
  unfold low
  dsimp only
  rw [e1, e2]
theorem low_Rt (n : Int) {d : Int} (h0 : 0 < d) : Rt (low n d).1 (low n d).2 := by
  have hg := gcd_pos (a := n) h0
  have e1 := exact _ _ (dvd_left n d)
  have e2 := exact _ _ (dvd_right n d)
  refine ⟨exact_pos h0 (dvd_right n d) hg, ?_⟩
  have h := Int.gcd_mul_left (((Int.gcd n d : Nat) : Int)) (low n d).1 (low n d).2
  unfold low at h ⊢
  dsimp only at h ⊢
  rw [e1, e2] at h
  rw [Int.natAbs_natCast] at h
  exact Nat.eq_of_mul_eq_mul_left hg (by omega)
theorem mul_val {an ad bn bd : Int} (ra : Rt an ad) (rb : Rt bn bd) {p : Int × Int} (h : mulR an ad bn bd = some p) : Rt p.1 p.2 ∧ val p.1 p.2 = val an ad * val bn bd := by
  have hg := gcd_pos (a := an) rb.1
  have hh := gcd_pos (a := bn) ra.1
  have e1 := exact _ _ (dvd_left an bd)
  have e2 := exact _ _ (dvd_right an bd)
  have e3 := exact _ _ (dvd_left bn ad)
  have e4 := exact _ _ (dvd_right bn ad)
  have hp : 0 < bd.tdiv (Int.gcd an bd : Nat) * ad.tdiv (Int.gcd bn ad : Nat) :=
    Int.mul_pos (exact_pos rb.1 (dvd_right _ _) (gcd_pos rb.1)) (exact_pos ra.1 (dvd_right _ _) (gcd_pos ra.1))
  simp only [mulR] at h
  split at h
  · cases h
    refine ⟨low_Rt _ hp, ?_⟩
    rw [low_val _ hp]
    unfold val
    rw [Rat.divInt_mul_divInt]
    generalize an.tdiv (Int.gcd an bd : Nat) = xa at *
    generalize bd.tdiv (Int.gcd an bd : Nat) = xb at *
    generalize bn.tdiv (Int.gcd bn ad : Nat) = ya at *
    generalize ad.tdiv (Int.gcd bn ad : Nat) = yb at *
    generalize ((Int.gcd an bd : Nat) : Int) = g at *
    generalize ((Int.gcd bn ad : Nat) : Int) = k at *
    have hz : g * k ≠ 0 := by
      intro hz
      rcases Int.mul_eq_zero.1 hz with h | h
      · subst h; simp at e2; have := rb.1; omega
      · subst h; simp at e4; have := ra.1; omega
    rw [← Rat.divInt_mul_left hz]
    congr 1
    · rw [← e1, ← e3]; grind
    · rw [← e2, ← e4]; grind
  · cases h
theorem add_val {an ad bn bd : Int} (ra : Rt an ad) (rb : Rt bn bd) {p : Int × Int} (h : addR an ad bn bd = some p) : Rt p.1 p.2 ∧ val p.1 p.2 = val an ad + val bn bd := by
  have hg := gcd_pos (a := ad) rb.1
  have e1 := exact _ _ (dvd_left ad bd)
  have e2 := exact _ _ (dvd_right ad bd)
  have hp : 0 < ad * bd.tdiv (Int.gcd ad bd : Nat) := Int.mul_pos ra.1 (exact_pos rb.1 (dvd_right _ _) (gcd_pos rb.1))
  simp only [addR] at h
  split at h
  · cases h
    refine ⟨low_Rt _ hp, ?_⟩
    rw [low_val _ hp]
    unfold val
    rw [Rat.divInt_add_divInt _ _ (by have := ra.1; omega) (by have := rb.1; omega)]
    generalize ad.tdiv (Int.gcd ad bd : Nat) = xa at *
    generalize bd.tdiv (Int.gcd ad bd : Nat) = xb at *
    generalize ((Int.gcd ad bd : Nat) : Int) = g at *
    have hz : g ≠ 0 := by
      intro hz
      subst hz; simp at e2; have := rb.1; omega
    rw [← Rat.divInt_mul_left hz]
    congr 1
    · rw [← e1, ← e2]; grind
    · rw [← e2]; grind
  · cases h
theorem val_num {n d : Int} (h : Rt n d) : (val n d).num = n := by
  unfold val
  rw [Rat.num_divInt, Int.gcd_comm, h.2, Int.sign_eq_one_of_pos h.1]
  simp
theorem val_den {n d : Int} (h : Rt n d) : ((val n d).den : Int) = d := by
  have h0 := h.1
  unfold val
  rw [Rat.den_divInt, Int.gcd_comm, h.2, if_neg (by omega)]
  omega
theorem val_inj {an ad bn bd : Int} (ra : Rt an ad) (rb : Rt bn bd) (h : val an ad = val bn bd) : an = bn ∧ ad = bd := by
  refine ⟨?_, ?_⟩
  · rw [← val_num ra, ← val_num rb, h]
  · rw [← val_den ra, ← val_den rb, h]
theorem val_lt {an ad bn bd : Int} (ra : Rt an ad) (rb : Rt bn bd) : val an ad < val bn bd ↔ an * bd < bn * ad := by
  rw [Rat.lt_iff, val_num ra, val_num rb, val_den ra, val_den rb]
theorem Rt_one (n : Int) : Rt n 1 := ⟨by decide, by simp⟩
theorem val_neg (n d : Int) : val (-n) d = - val n d := by
  unfold val
  rw [Rat.neg_divInt]
theorem Rt_neg {n d : Int} (h : Rt n d) : Rt (-n) d := ⟨h.1, by rw [Int.neg_gcd]; exact h.2⟩
theorem val_zero {n d : Int} (h : Rt n d) : val n d = 0 ↔ n = 0 := by
  constructor
  · intro h0
    rw [← val_num h, h0]
    rfl
  · intro h0
    subst h0
    unfold val
    simp
end Go.Proofs.Ytmnohhmnkmnikaa.RatPlain

/- What values and raw numbers are worth, in plain Lean. -/
set_option linter.unusedVariables false
set_option linter.unusedSimpArgs false
namespace Go.Proofs.Ytmnohhmnkmnikaa.Scale
open Go.Proofs.Ytmnohhmnkmnikaa.RatPlain

theorem told_cases (P : Prop) [Decidable P] (r : Option (Int × Int)) : (told P r = (0, 0, 1) ∧ ¬ P) ∨ (P ∧ r = none ∧ told P r = (0, 0, 2)) ∨ (P ∧ ∃ p, r = some p ∧ told P r = (p.1, p.2, 0)) := by
  unfold told
  by_cases h : P
  · rw [if_pos h]
    cases r with
    | none => exact .inr (.inl ⟨h, rfl, rfl⟩)
    | some p => exact .inr (.inr ⟨h, p, rfl, rfl⟩)
  · rw [if_neg h]
    exact .inl ⟨rfl, h⟩
/-- A step: it was wrong before, it goes wrong, or it is worth what it is to be. -/
theorem timesW_cases (r : Int × Int × Int) (bn bd : Int) (hb : Rt bn bd) : (r.2.2 ≠ 0 ∧ timesW r bn bd = r) ∨ (r.2.2 = 0 ∧ ¬ Rt r.1 r.2.1 ∧ timesW r bn bd = (0, 0, 1)) ∨ (r.2.2 = 0 ∧ timesW r bn bd = (0, 0, 2)) ∨
    (r.2.2 = 0 ∧ ∃ n d, timesW r bn bd = (n, d, 0) ∧ Rt n d ∧ val n d = val r.1 r.2.1 * val bn bd) := by
  unfold timesW
  by_cases h : r.2.2 = 0
  · rw [if_pos h]
    rcases told_cases (Rt r.1 r.2.1 ∧ Rt bn bd) (mulR r.1 r.2.1 bn bd) with ⟨h1, h2⟩ | ⟨h1, h2, h3⟩ | ⟨h1, p, h2, h3⟩
    · exact .inr (.inl ⟨h, fun h4 => h2 ⟨h4, hb⟩, h1⟩)
    · exact .inr (.inr (.inl ⟨h, h3⟩))
    · have := mul_val h1.1 h1.2 h2
      exact .inr (.inr (.inr ⟨h, p.1, p.2, h3, this.1, this.2⟩))
  · rw [if_neg h]
    exact .inl ⟨h, rfl⟩
theorem plusW_cases (r : Int × Int × Int) (bn bd : Int) (hb : Rt bn bd) : (r.2.2 ≠ 0 ∧ plusW r bn bd = r) ∨ (r.2.2 = 0 ∧ ¬ Rt r.1 r.2.1 ∧ plusW r bn bd = (0, 0, 1)) ∨ (r.2.2 = 0 ∧ plusW r bn bd = (0, 0, 2)) ∨
    (r.2.2 = 0 ∧ ∃ n d, plusW r bn bd = (n, d, 0) ∧ Rt n d ∧ val n d = val r.1 r.2.1 + val bn bd) := by
  unfold plusW
  by_cases h : r.2.2 = 0
  · rw [if_pos h]
    rcases told_cases (Rt r.1 r.2.1 ∧ Rt bn bd) (addR r.1 r.2.1 bn bd) with ⟨h1, h2⟩ | ⟨h1, h2, h3⟩ | ⟨h1, p, h2, h3⟩
    · exact .inr (.inl ⟨h, fun h4 => h2 ⟨h4, hb⟩, h1⟩)
    · exact .inr (.inr (.inl ⟨h, h3⟩))
    · have := add_val h1.1 h1.2 h2
      exact .inr (.inr (.inr ⟨h, p.1, p.2, h3, this.1, this.2⟩))
  · rw [if_neg h]
    exact .inl ⟨h, rfl⟩
/-- A value: wrong, beyond, or worth the raw number times the scale, and the offset. -/
theorem value_cases (sn sd on od raw : Int) : (¬ (Rt sn sd ∧ Rt on od) ∧ valueR sn sd on od raw = (0, 0, 1)) ∨ ((Rt sn sd ∧ Rt on od) ∧ valueR sn sd on od raw = (0, 0, 2)) ∨
    ((Rt sn sd ∧ Rt on od) ∧ ∃ n d, valueR sn sd on od raw = (n, d, 0) ∧ Rt n d ∧ val n d = val raw 1 * val sn sd + val on od) := by
  unfold valueR
  by_cases h : Rt sn sd ∧ Rt on od
  · rw [if_pos h]
    rcases timesW_cases (raw, 1, 0) sn sd h.1 with ⟨h1, _⟩ | ⟨_, h1, _⟩ | ⟨_, h1⟩ | ⟨_, n, d, h1, h2, h3⟩
    · exact absurd rfl h1
    · exact absurd (Rt_one raw) h1
    · rw [h1]
      exact .inr (.inl ⟨h, rfl⟩)
    · rw [h1]
      rcases plusW_cases (n, d, 0) on od h.2 with ⟨k1, _⟩ | ⟨_, k1, _⟩ | ⟨_, k1⟩ | ⟨_, n2, d2, k1, k2, k3⟩
      · exact absurd rfl k1
      · exact absurd h2 k1
      · exact .inr (.inl ⟨h, k1⟩)
      · refine .inr (.inr ⟨h, n2, d2, k1, k2, ?_⟩)
        rw [k3]
        dsimp only
        rw [h3]
  · rw [if_neg h]
    exact .inl ⟨h, rfl⟩
theorem value_ok {sn sd on od raw v1 v2 : Int} (h : valueR sn sd on od raw = (v1, v2, 0)) : Rt sn sd ∧ Rt on od ∧ Rt v1 v2 ∧ val v1 v2 = val raw 1 * val sn sd + val on od := by
  rcases value_cases sn sd on od raw with ⟨_, k⟩ | ⟨_, k⟩ | ⟨hr, n, d, k, k2, k3⟩ <;> rw [k] at h <;> cases h
  exact ⟨hr.1, hr.2, k2, k3⟩
end Go.Proofs.Ytmnohhmnkmnikaa.Scale

/- Which of two fractions of 64 bits is less: what the program answers. -/
set_option linter.unusedVariables false
set_option linter.unusedSimpArgs false
namespace Go.Proofs.Ytmnohhmnkmnikaa.RatPlain
open Go.RowKit Go.Proofs.YtmnohhmnkmnikaaW.PrintWords

theorem mul64 {a b : Int} (a0 : 0 ≤ a) (a1 : a < 18446744073709551616) (b0 : 0 ≤ b) (b1 : b < 18446744073709551616) :
    PLess.bits_Mul64.f a b = some (a * b / 18446744073709551616, a * b % 18446744073709551616) := by
  unfold PLess.bits_Mul64.f
  rw [low32 a0 a1, low32 b0 b1]
  have ha : a = a / 4294967296 * 4294967296 + a % 4294967296 := by omega
  have hb : b = b / 4294967296 * 4294967296 + b % 4294967296 := by omega
  obtain ⟨x, hx⟩ : ∃ x, x = a / 4294967296 := ⟨_, rfl⟩
  obtain ⟨y, hy⟩ : ∃ y, y = a % 4294967296 := ⟨_, rfl⟩
  obtain ⟨u, hu⟩ : ∃ u, u = b / 4294967296 := ⟨_, rfl⟩
  obtain ⟨v, hv⟩ : ∃ v, v = b % 4294967296 := ⟨_, rfl⟩
  have x0 : 0 ≤ x ∧ x ≤ 4294967295 := by omega
  have y0 : 0 ≤ y ∧ y ≤ 4294967295 := by omega
  have u0 : 0 ≤ u ∧ u ≤ 4294967295 := by omega
  have v0 : 0 ≤ v ∧ v ≤ 4294967295 := by omega
  rw [← hx, ← hy] at ha
  rw [← hu, ← hv] at hb
  rw [← hx, ← hy, ← hu, ← hv]
  have pA := prod_le x0.1 x0.2 u0.1 u0.2
  have pB := prod_le x0.1 x0.2 v0.1 v0.2
  have pC := prod_le y0.1 y0.2 u0.1 u0.2
  have pD := prod_le y0.1 y0.2 v0.1 v0.2
  have hab : a * b = x * u * 18446744073709551616 + (x * v + y * u) * 4294967296 + y * v := by
    rw [ha, hb]
    grind
  rw [hab]
  clear hab hx hy hu hv ha hb
  obtain ⟨A, hA⟩ : ∃ A, A = x * u := ⟨_, rfl⟩
  obtain ⟨B, hB⟩ : ∃ A, A = x * v := ⟨_, rfl⟩
  obtain ⟨C, hC⟩ : ∃ A, A = y * u := ⟨_, rfl⟩
  obtain ⟨D, hD⟩ : ∃ A, A = y * v := ⟨_, rfl⟩
  rw [← hA] at pA
  rw [← hB] at pB
  rw [← hC] at pC
  rw [← hD] at pD
  rw [← hA, ← hB, ← hC, ← hD]
  clear hA hB hC hD
  have wA : IntKind.u64.wrap A = A := wrap_u64_in (by omega) (by omega)
  have wB : IntKind.u64.wrap B = B := wrap_u64_in (by omega) (by omega)
  have wC : IntKind.u64.wrap C = C := wrap_u64_in (by omega) (by omega)
  have wD : IntKind.u64.wrap D = D := wrap_u64_in (by omega) (by omega)
  rw [wA, wB, wC, wD]
  have wT : IntKind.u64.wrap (B + D / 4294967296) = B + D / 4294967296 := wrap_u64_in (by omega) (by omega)
  rw [wT, low32 (by omega) (by omega)]
  have wV : IntKind.u64.wrap ((B + D / 4294967296) % 4294967296 + C) = (B + D / 4294967296) % 4294967296 + C := wrap_u64_in (by omega) (by omega)
  rw [wV]
  have wW : IntKind.u64.wrap (A + (B + D / 4294967296) / 4294967296) = A + (B + D / 4294967296) / 4294967296 := wrap_u64_in (by omega) (by omega)
  rw [wW]
  rw [u64_wrap, u64_wrap]
  congr 2
  omega
theorem lessWide_eq {a b c d : Int} (a0 : 0 ≤ a) (a1 : a < 18446744073709551616) (b0 : 0 ≤ b) (b1 : b < 18446744073709551616) (c0 : 0 ≤ c) (c1 : c < 18446744073709551616) (d0 : 0 ≤ d) (d1 : d < 18446744073709551616) :
    PLess.ratio_lessWide.f a b c d = some (decide (a * b < c * d)) := by
  unfold PLess.ratio_lessWide.f
  rw [mul64 a0 a1 b0 b1, mul64 c0 c1 d0 d1]
  simp only [Option.bind_some]
  generalize a * b = P
  generalize c * d = Q
  by_cases h : P < Q
  · rw [decide_eq_true h]
    by_cases h1 : P / 18446744073709551616 < Q / 18446744073709551616
    · rw [if_pos h1]
    · rw [if_neg h1, if_pos (by omega), decide_eq_true (by omega)]
  · rw [decide_eq_false h]
    rw [if_neg (by omega)]
    by_cases h1 : P / 18446744073709551616 = Q / 18446744073709551616
    · rw [if_pos h1, decide_eq_false (by omega)]
    · rw [if_neg h1]
theorem gcd_same : ∀ k x y, PLess.whole_Gcd.l0 k x y = PAdd.whole_Gcd.l0 k x y := by
  intro k
  induction k with
  | zero => intro x y; rfl
  | succ k ih =>
    intro x y
    unfold PLess.whole_Gcd.l0 PAdd.whole_Gcd.l0
    rw [ih]
theorem both_same (k : Nat) (a b c d : Int) : PLess.ratio_both.f k a b c d = PAdd.ratio_both.f k a b c d := by
  have h1 : ∀ x y, PLess.whole_Gcd.f k x y = PAdd.whole_Gcd.f k x y := by
    intro x y
    unfold PLess.whole_Gcd.f PAdd.whole_Gcd.f
    simp only [gcd_same]
    rfl
  have h2 : ∀ x y, PLess.ratio_Right.f k x y = PAdd.ratio_Right.f k x y := by
    intro x y
    unfold PLess.ratio_Right.f PAdd.ratio_Right.f
    rw [h1]
  unfold PLess.ratio_both.f PAdd.ratio_both.f
  rw [h2, h2]
theorem less_size {a : Int} (h : I64 a) : PLess.ratio_size.f a = some (a.natAbs : Int) := by
  unfold I64 at h
  unfold PLess.ratio_size.f
  rw [u64_wrap, u64_wrap]
  split
  · congr 1; omega
  · congr 1; omega
theorem neg_of {a d : Int} (ha : a < 0) (hd : 0 < d) : a * d < 0 := Int.mul_neg_of_neg_of_pos ha hd
theorem less_eq {an ad bn bd : Int} (h1 : I64 an) (h2 : I64 ad) (h3 : I64 bn) (h4 : I64 bd) {k : Nat} (hk : big + 2 < k) :
    PLess.ratio_Less.f k an ad bn bd = some (decide ((Rt an ad ∧ Rt bn bd) ∧ an * bd < bn * ad)) := by
  obtain ⟨k, rfl⟩ : ∃ m, k = m + 2 := ⟨k - 2, by omega⟩
  unfold PLess.ratio_Less.f
  rw [both_same, both_eq h1 h2 h3 h4 (by omega)]
  simp only [Option.bind_some]
  by_cases hr : Rt an ad ∧ Rt bn bd
  · rw [if_pos (by simpa using hr)]
    obtain ⟨ra, rb⟩ := hr
    have pa := ra.1
    have pb := rb.1
    have e : ∀ P : Prop, [Decidable P] → decide ((Rt an ad ∧ Rt bn bd) ∧ P) = decide P := by intro P _; simp [ra, rb]
    rw [e]
    have i1 := h1
    have i2 := h2
    have i3 := h3
    have i4 := h4
    unfold I64 at i1 i2 i3 i4
    have w1 : IntKind.u64.wrap ad = ad := wrap_u64_in (by omega) (by omega)
    have w2 : IntKind.u64.wrap bd = bd := wrap_u64_in (by omega) (by omega)
    by_cases hn : an < 0
    · rw [if_pos hn]
      by_cases hb : bn ≥ 0
      · rw [decide_eq_true hb, PLess.ratio_Less.j0, if_pos rfl]
        have k1 := neg_of hn pb
        have k2 := Int.mul_nonneg hb (Int.le_of_lt pa)
        rw [decide_eq_true (by omega)]
      · rw [decide_eq_false hb, PLess.ratio_Less.j0, if_neg (by simp), if_neg (by omega), PLess.ratio_Less.j1, if_neg (by simp), if_pos hn, less_size h3, less_size h1]
        simp only [Option.bind_some]
        rw [w1, w2, lessWide_eq (by omega) (by omega) (by omega) (by omega) (by omega) (by omega) (by omega) (by omega)]
        have e1 : (bn.natAbs : Int) = - bn := by omega
        have e2 : (an.natAbs : Int) = - an := by omega
        rw [e1, e2, Int.neg_mul, Int.neg_mul]
        simp only [Option.bind_some, Option.some.injEq, decide_eq_decide]
        omega
    · rw [if_neg hn, PLess.ratio_Less.j0, if_neg (by simp), if_pos (by omega), PLess.ratio_Less.j1]
      by_cases hb : bn < 0
      · rw [decide_eq_true hb, if_pos rfl]
        have k1 := neg_of hb pa
        have k2 := Int.mul_nonneg (show 0 ≤ an by omega) (Int.le_of_lt pb)
        rw [decide_eq_false (by omega)]
      · rw [decide_eq_false hb, if_neg (by simp), if_neg hn, less_size h1, less_size h3]
        simp only [Option.bind_some]
        rw [w1, w2, lessWide_eq (by omega) (by omega) (by omega) (by omega) (by omega) (by omega) (by omega) (by omega)]
        have e1 : (bn.natAbs : Int) = bn := by omega
        have e2 : (an.natAbs : Int) = an := by omega
        rw [e1, e2]
        rfl
  · rw [if_neg (by simpa using hr), decide_eq_false (fun h => hr h.1)]
theorem less_calls {an ad bn bd : Int} (h1 : I64 an) (h2 : I64 ad) (h3 : I64 bn) (h4 : I64 bd) (w : World) :
    Calls Try.prog 67 #[.agg #[.int .i64 an, .int .i64 ad], .agg #[.int .i64 bn, .int .i64 bd]] w fun e w' => e = .returned (.bool (decide ((Rt an ad ∧ Rt bn bd) ∧ an * bd < bn * ad))) ∧ Below w.heap.size w w' :=
  PLess.ratio_Less.calls (big + 3) an ad bn bd _ w (less_eq h1 h2 h3 h4 (by omega))
end Go.Proofs.Ytmnohhmnkmnikaa.RatPlain



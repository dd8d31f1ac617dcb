import Derived.Test.YtcldlfhnmkogeaaRatMake
/- The product of two fractions, walked. -/
set_option linter.unusedVariables false
set_option linter.unusedSimpArgs false
namespace Go.Proofs.Ytcldlfhnmkogeaa.RatPlain
open Go.RowKit Go.Proofs.YtcldlfhnmkogeaaW.PrintWords Go.Proofs.YtcldlfhnmkogeaaW.PrintLast Go.Proofs.Ytcldlfhnmkogeaa.Nats Go.Proofs.Ytcldlfhnmkogeaa.HeapKit Go.Proofs.Ytcldlfhnmkogeaa.PAdd

/-- The product, or none. -/
def mulR (an ad bn bd : Int) : Option (Int × Int) :=
  let g : Int := (Int.gcd an bd : Nat)
  let h : Int := (Int.gcd bn ad : Nat)
  let n := an.tdiv g * bn.tdiv h
  let d := bd.tdiv g * ad.tdiv h
  if I64 n ∧ I64 d then some (low n d) else none
/-- What is answered. -/
def told (ok : Prop) [Decidable ok] (r : Option (Int × Int)) : Int × Int × Int := if ok then (match r with | some p => (p.1, p.2, 0) | none => (0, 0, 2)) else (0, 0, 1)
theorem watched_I64 (x : Int) : I64 (watched x).1 := by unfold watched; split; assumption; decide
theorem watched_ok (x : Int) : (watched x).2 = decide (I64 x) := by unfold watched; split <;> simp [*]
theorem watched_fst {x : Int} (h : I64 x) : (watched x).1 = x := by simp [watched, h]
theorem watched_eta (x : Int) : watched x = ((watched x).1, (watched x).2) := rfl
/-- An answer: a fraction and what went wrong. -/
def ans (r : Int × Int × Int) : Ending := .returned (.tuple #[.agg #[.int .i64 r.1, .int .i64 r.2.1], .int .i64 r.2.2])

set_option maxRecDepth 100000 in
set_option maxHeartbeats 2000000 in
theorem mul_wrong {an ad bn bd : Int} (h1 : I64 an) (h2 : I64 ad) (h3 : I64 bn) (h4 : I64 bd) (hr : ¬ (Rt an ad ∧ Rt bn bd)) (w : World) :
    Calls Try.prog 78 #[.agg #[.int .i64 an, .int .i64 ad], .agg #[.int .i64 bn, .int .i64 bd]] w fun e w' => e = ans (0, 0, 1) ∧ Below w.heap.size w w' := by
  have hb := both_eq h1 h2 h3 h4 (k := big + 1) (by omega)
  rw [decide_eq_false hr] at hb
  go_enter Try.func78, Try.ntmps78
  go_wp2_with fail
  refine (ratio_both.calls (big + 1) an ad bn bd false _ hb).mono ?_
  rintro e w1 ⟨rfl, hb1⟩
  have hB := (b3_start w (.cells #[.int .i64 an, .int .i64 ad] 29) (.cells #[.int .i64 bn, .int .i64 bd] 29) (.cells #[.int .i64 0, .int .i64 0] 29)).step hb1
  clear hb1
  have hx_ := hB.b3
  have d_0 : w1.cell? ⟨w.heap.size + 1 + 1, 0, none⟩ = some (.int .i64 0) := blk_cell hx_ 0
  have df_0 : w1.frozen? ⟨w.heap.size + 1 + 1, 0, none⟩ = false := blk_frozen hx_ 0
  have d_1 : w1.cell? ⟨w.heap.size + 1 + 1, 1, none⟩ = some (.int .i64 0) := blk_cell hx_ 1
  have df_1 : w1.frozen? ⟨w.heap.size + 1 + 1, 1, none⟩ = false := blk_frozen hx_ 1
  go_wp2_with fail
  have k_ := (blk_set (blk_set hx_ 0 (.int .i64 0)) 1 (.int .i64 0))
  have hB_ := (Below.setCell (Below.setCell hB.be (p := ⟨w.heap.size + 1 + 1, 0, none⟩) ((by show w.heap.size ≤ w.heap.size + 1 + 1; omega)) (.int .i64 0)) (p := ⟨w.heap.size + 1 + 1, 1, none⟩) ((by show w.heap.size ≤ w.heap.size + 1 + 1; omega)) (.int .i64 0))
  obtain ⟨w_, hw_⟩ : ∃ w_, w_ = (World.setCell (World.setCell w1 ⟨w.heap.size + 1 + 1, 0, none⟩ (.int .i64 0)) ⟨w.heap.size + 1 + 1, 1, none⟩ (.int .i64 0)) := ⟨_, rfl⟩
  rw [← hw_] at k_ hB_
  try rw [← hw_]
  clear hw_
  have s_0 : w_.cell? ⟨w.heap.size + 1 + 1, 0, none⟩ = some (.int .i64 0) := blk_cell k_ 0
  have s_1 : w_.cell? ⟨w.heap.size + 1 + 1, 1, none⟩ = some (.int .i64 0) := blk_cell k_ 1
  refine bodyPost_ret (by simp [results, Try.results78, go_sem, s_0, s_1]; try rfl) rfl ?_
  exact ⟨rfl, hB_⟩

set_option maxRecDepth 100000 in
set_option maxHeartbeats 4000000 in
theorem mul_right {an ad bn bd : Int} (h1 : I64 an) (h2 : I64 ad) (h3 : I64 bn) (h4 : I64 bd) (ra : Rt an ad) (rb : Rt bn bd) (w : World) :
    Calls Try.prog 78 #[.agg #[.int .i64 an, .int .i64 ad], .agg #[.int .i64 bn, .int .i64 bd]] w fun e w' => e = ans (told True (mulR an ad bn bd)) ∧ Below w.heap.size w w' := by
  have hb := both_eq h1 h2 h3 h4 (k := big + 1) (by omega)
  rw [decide_eq_true (And.intro ra rb)] at hb
  have hs1 := shared_eq h1 h4 rb.1 (k := big + 1) (by omega)
  have hs2 := shared_eq h3 h2 ra.1 (k := big + 1) (by omega)
  obtain ⟨xa, hxa⟩ : ∃ x, an.tdiv (Int.gcd an bd : Nat) = x := ⟨_, rfl⟩
  obtain ⟨xb, hxb⟩ : ∃ x, bd.tdiv (Int.gcd an bd : Nat) = x := ⟨_, rfl⟩
  obtain ⟨ya, hya⟩ : ∃ x, bn.tdiv (Int.gcd bn ad : Nat) = x := ⟨_, rfl⟩
  obtain ⟨yb, hyb⟩ : ∃ x, ad.tdiv (Int.gcd bn ad : Nat) = x := ⟨_, rfl⟩
  rw [hxa, hxb] at hs1
  rw [hya, hyb] at hs2
  have hM : mulR an ad bn bd = if I64 (xa * ya) ∧ I64 (xb * yb) then some (low (xa * ya) (xb * yb)) else none := by
    unfold mulR
    simp only [hxa, hxb, hya, hyb]
  have i1 : I64 xa := by rw [← hxa]; exact h1.tdiv (gcd_pos rb.1)
  have i2 : I64 xb := by rw [← hxb]; exact h4.tdiv (gcd_pos rb.1)
  have i3 : I64 ya := by rw [← hya]; exact h3.tdiv (gcd_pos ra.1)
  have i4 : I64 yb := by rw [← hyb]; exact h2.tdiv (gcd_pos ra.1)
  have hpos : 0 < xb * yb := by
    rw [← hxb, ← hyb]
    exact Int.mul_pos (exact_pos rb.1 (dvd_right _ _) (gcd_pos rb.1)) (exact_pos ra.1 (dvd_right _ _) (gcd_pos ra.1))
  obtain ⟨M, hMM⟩ : ∃ M, mulR an ad bn bd = M := ⟨_, rfl⟩
  rw [hMM] at hM ⊢
  have HM := Lib.hid hM
  clear hM hMM hxa hxb hya hyb
  go_enter Try.func78, Try.ntmps78
  go_wp2_with fail
  refine (ratio_both.calls (big + 1) an ad bn bd true _ hb).mono ?_
  rintro e w1 ⟨rfl, hb1⟩
  have hB := (b3_start w (.cells #[.int .i64 an, .int .i64 ad] 29) (.cells #[.int .i64 bn, .int .i64 bd] 29) (.cells #[.int .i64 0, .int .i64 0] 29)).step hb1
  clear hb1
  go_wp2_with fail
  refine start_ (n := 14) (S := fun wx => B3 w wx (.cells #[.int .i64 an, .int .i64 ad] 29) (.cells #[.int .i64 bn, .int .i64 bd] 29) (.cells #[.int .i64 0, .int .i64 0] 29)) (ds := []) #[false, false, false, false, false, false, false, false, false, false, false, false, false, false] (by kernel_rfl) rfl rfl (hB.step (below_drew (Below.refl _ _))) (fun hHeld => ?_)
  refine pure_ (i := 0) (N := some 17) (v := ?_) (a' := ?_) #[true, false, false, false, false, false, false, false, false, false, false, false, false, false] rfl rfl (by kernel_rfl) (fun _ _ _ h => h) (Or.inl ⟨by rfl, ?_⟩) ?_ ?_
  rotate_left
  · intro w'
    go_simp
    try with_reducible rfl
  rotate_left
  · simp only [Act.put, List.setIfInBounds_toArray, List.set_cons_zero, List.set_cons_succ, i64_w, i32_w]
    rfl
  refine take_ (i := 1) (N := some 18) (v := ?_) (a' := ?_) #[true, true, false, false, false, false, false, false, false, false, false, false, false, false] rfl rfl (by kernel_rfl) (fun _ _ _ h => h) (Or.inl ⟨by rfl, ?_⟩) hHeld ?_ ?_
  rotate_left
  · rintro w' hh
    have s0 : w'.cell? ⟨w.heap.size, 0, none⟩ = some (.int .i64 an) := blk_cell hh.b1 0
    have s1 : w'.cell? ⟨w.heap.size, 1, none⟩ = some (.int .i64 ad) := blk_cell hh.b1 1
    have s2 : w'.cell? ⟨w.heap.size + 1, 0, none⟩ = some (.int .i64 bn) := blk_cell hh.b2 0
    have s3 : w'.cell? ⟨w.heap.size + 1, 1, none⟩ = some (.int .i64 bd) := blk_cell hh.b2 1
    go_simp
    with_reducible rfl
  rotate_left
  · simp only [Act.put, List.setIfInBounds_toArray, List.set_cons_zero, List.set_cons_succ, i64_w, i32_w]
    rfl
  refine pure_ (i := 2) (N := some 19) (v := ?_) (a' := ?_) #[true, true, true, false, false, false, false, false, false, false, false, false, false, false] rfl rfl (by kernel_rfl) (fun _ _ _ h => h) (Or.inl ⟨by rfl, ?_⟩) ?_ ?_
  rotate_left
  · intro w'
    go_simp
    try with_reducible rfl
  rotate_left
  · simp only [Act.put, List.setIfInBounds_toArray, List.set_cons_zero, List.set_cons_succ, i64_w, i32_w]
    rfl
  refine take_ (i := 3) (N := some 20) (v := ?_) (a' := ?_) #[true, true, true, true, false, false, false, false, false, false, false, false, false, false] rfl rfl (by kernel_rfl) (fun _ _ _ h => h) (Or.inl ⟨by rfl, ?_⟩) hHeld ?_ ?_
  rotate_left
  · rintro w' hh
    have s0 : w'.cell? ⟨w.heap.size, 0, none⟩ = some (.int .i64 an) := blk_cell hh.b1 0
    have s1 : w'.cell? ⟨w.heap.size, 1, none⟩ = some (.int .i64 ad) := blk_cell hh.b1 1
    have s2 : w'.cell? ⟨w.heap.size + 1, 0, none⟩ = some (.int .i64 bn) := blk_cell hh.b2 0
    have s3 : w'.cell? ⟨w.heap.size + 1, 1, none⟩ = some (.int .i64 bd) := blk_cell hh.b2 1
    go_simp
    with_reducible rfl
  rotate_left
  · simp only [Act.put, List.setIfInBounds_toArray, List.set_cons_zero, List.set_cons_succ, i64_w, i32_w]
    rfl
  refine pure_ (i := 5) (N := some 22) (v := ?_) (a' := ?_) #[true, true, true, true, false, true, false, false, false, false, false, false, false, false] rfl rfl (by kernel_rfl) (fun _ _ _ h => h) (Or.inl ⟨by rfl, ?_⟩) ?_ ?_
  rotate_left
  · intro w'
    go_simp
    try with_reducible rfl
  rotate_left
  · simp only [Act.put, List.setIfInBounds_toArray, List.set_cons_zero, List.set_cons_succ, i64_w, i32_w]
    rfl
  refine take_ (i := 6) (N := some 23) (v := ?_) (a' := ?_) #[true, true, true, true, false, true, true, false, false, false, false, false, false, false] rfl rfl (by kernel_rfl) (fun _ _ _ h => h) (Or.inl ⟨by rfl, ?_⟩) hHeld ?_ ?_
  rotate_left
  · rintro w' hh
    have s0 : w'.cell? ⟨w.heap.size, 0, none⟩ = some (.int .i64 an) := blk_cell hh.b1 0
    have s1 : w'.cell? ⟨w.heap.size, 1, none⟩ = some (.int .i64 ad) := blk_cell hh.b1 1
    have s2 : w'.cell? ⟨w.heap.size + 1, 0, none⟩ = some (.int .i64 bn) := blk_cell hh.b2 0
    have s3 : w'.cell? ⟨w.heap.size + 1, 1, none⟩ = some (.int .i64 bd) := blk_cell hh.b2 1
    go_simp
    with_reducible rfl
  rotate_left
  · simp only [Act.put, List.setIfInBounds_toArray, List.set_cons_zero, List.set_cons_succ, i64_w, i32_w]
    rfl
  refine pure_ (i := 7) (N := some 24) (v := ?_) (a' := ?_) #[true, true, true, true, false, true, true, true, false, false, false, false, false, false] rfl rfl (by kernel_rfl) (fun _ _ _ h => h) (Or.inl ⟨by rfl, ?_⟩) ?_ ?_
  rotate_left
  · intro w'
    go_simp
    try with_reducible rfl
  rotate_left
  · simp only [Act.put, List.setIfInBounds_toArray, List.set_cons_zero, List.set_cons_succ, i64_w, i32_w]
    rfl
  refine take_ (i := 8) (N := some 25) (v := ?_) (a' := ?_) #[true, true, true, true, false, true, true, true, true, false, false, false, false, false] rfl rfl (by kernel_rfl) (fun _ _ _ h => h) (Or.inl ⟨by rfl, ?_⟩) hHeld ?_ ?_
  rotate_left
  · rintro w' hh
    have s0 : w'.cell? ⟨w.heap.size, 0, none⟩ = some (.int .i64 an) := blk_cell hh.b1 0
    have s1 : w'.cell? ⟨w.heap.size, 1, none⟩ = some (.int .i64 ad) := blk_cell hh.b1 1
    have s2 : w'.cell? ⟨w.heap.size + 1, 0, none⟩ = some (.int .i64 bn) := blk_cell hh.b2 0
    have s3 : w'.cell? ⟨w.heap.size + 1, 1, none⟩ = some (.int .i64 bd) := blk_cell hh.b2 1
    go_simp
    with_reducible rfl
  rotate_left
  · simp only [Act.put, List.setIfInBounds_toArray, List.set_cons_zero, List.set_cons_succ, i64_w, i32_w]
    rfl
  refine join_ (σ := Nat × Nat) 2 #[true, true, true, true, true, true, true, true, true, true, true, true, false, false] (fun s => [(21, .agg #[.int .i64 xa, .int .i64 xb]), (26, .agg #[.int .i64 ya, .int .i64 yb]), (6, .pointer (some ⟨s.1, 0, none⟩)), (7, .pointer (some ⟨s.2, 0, none⟩))]) (fun s wx => (B3 w wx (.cells #[.int .i64 an, .int .i64 ad] 29) (.cells #[.int .i64 bn, .int .i64 bd] 29) (.cells #[.int .i64 0, .int .i64 0] 29)) ∧ wx.heap[s.1]? = some (.cells #[.int .i64 0, .int .i64 0] 130 (0, 0)) ∧ w.heap.size + 3 ≤ s.1 ∧ wx.heap[s.2]? = some (.cells #[.int .i64 0, .int .i64 0] 130 (0, 0)) ∧ w.heap.size + 3 ≤ s.2 ∧ s.1 ≠ s.2 ∧ True) ?_ ?hall
  case hall =>
    intro hj_4_9_10_11
    refine join_ (σ := Nat × Nat) 3 #[true, true, true, true, true, true, true, true, true, true, true, false, false, false] (fun s => [(21, .agg #[.int .i64 xa, .int .i64 xb]), (26, .agg #[.int .i64 ya, .int .i64 yb]), (6, .pointer (some ⟨s.1, 0, none⟩))]) (fun s wx => (B3 w wx (.cells #[.int .i64 an, .int .i64 ad] 29) (.cells #[.int .i64 bn, .int .i64 bd] 29) (.cells #[.int .i64 0, .int .i64 0] 29)) ∧ wx.heap[s.1]? = some (.cells #[.int .i64 0, .int .i64 0] 130 (0, 0)) ∧ w.heap.size + 3 ≤ s.1 ∧ True) ?c_4_9_10 ?_
    case c_4_9_10 =>
      rintro ⟨p10, p11⟩ wN hF
      obtain ⟨hHeld, hb10, hl10, _⟩ := hF
      replace hb10 : wN.heap[p10]? = some (.cells #[.int .i64 0, .int .i64 0] 130 (0, 0)) := hb10
      replace hl10 : w.heap.size + 3 ≤ p10 := hl10
      refine norm_ (a' := ?_) ?_ ?_
      rotate_left
      · simp only [putAll, Act.put, List.setIfInBounds_toArray, List.set_cons_zero, List.set_cons_succ, i64_w, i32_w]
        rfl
      refine one_ (i := 11) (N := some 7) #[true, true, true, true, true, true, true, true, true, true, true, true, false, false] rfl rfl (by kernel_rfl) (by decide) (fun K hK => ?_)
      refine box_step (by rfl) (N := 7) rfl (cs := #[.int .i64 0, .int .i64 0]) (t := 130) ?_ ?_
      · first
          | (go_simp; done)
          | (go_simp; rfl)
      intro p11 hp_ w_ hbox_ hB_
      have hS_ := (hHeld.step hB_)
      have hz_ := hHeld.size
      have hlt10 := blk_lt hb10
      refine hK.out _ _ hS_ (fun hHeld_ => ?_)
      clear hK K
      exact norm_ (by rfl) (hj_4_9_10_11 (p10, p11) w_ ⟨hS_, blk_below hb10 hB_, hl10, hbox_, by show w.heap.size + 3 ≤ p11; omega, by show p10 ≠ p11; omega, trivial⟩)
    intro hj_4_9_10
    refine join_ (σ := Nat × Nat) 3 #[true, true, true, true, true, true, true, true, true, true, false, true, false, false] (fun s => [(21, .agg #[.int .i64 xa, .int .i64 xb]), (26, .agg #[.int .i64 ya, .int .i64 yb]), (7, .pointer (some ⟨s.2, 0, none⟩))]) (fun s wx => (B3 w wx (.cells #[.int .i64 an, .int .i64 ad] 29) (.cells #[.int .i64 bn, .int .i64 bd] 29) (.cells #[.int .i64 0, .int .i64 0] 29)) ∧ wx.heap[s.2]? = some (.cells #[.int .i64 0, .int .i64 0] 130 (0, 0)) ∧ w.heap.size + 3 ≤ s.2 ∧ True) ?c_4_9_11 ?_
    case c_4_9_11 =>
      rintro ⟨p10, p11⟩ wN hF
      obtain ⟨hHeld, hb11, hl11, _⟩ := hF
      replace hb11 : wN.heap[p11]? = some (.cells #[.int .i64 0, .int .i64 0] 130 (0, 0)) := hb11
      replace hl11 : w.heap.size + 3 ≤ p11 := hl11
      refine norm_ (a' := ?_) ?_ ?_
      rotate_left
      · simp only [putAll, Act.put, List.setIfInBounds_toArray, List.set_cons_zero, List.set_cons_succ, i64_w, i32_w]
        rfl
      refine one_ (i := 10) (N := some 6) #[true, true, true, true, true, true, true, true, true, true, true, true, false, false] rfl rfl (by kernel_rfl) (by decide) (fun K hK => ?_)
      refine box_step (by rfl) (N := 6) rfl (cs := #[.int .i64 0, .int .i64 0]) (t := 130) ?_ ?_
      · first
          | (go_simp; done)
          | (go_simp; rfl)
      intro p10 hp_ w_ hbox_ hB_
      have hS_ := (hHeld.step hB_)
      have hz_ := hHeld.size
      have hlt11 := blk_lt hb11
      refine hK.out _ _ hS_ (fun hHeld_ => ?_)
      clear hK K
      exact norm_ (by rfl) (hj_4_9_10_11 (p10, p11) w_ ⟨hS_, hbox_, by show w.heap.size + 3 ≤ p10; omega, blk_below hb11 hB_, hl11, by show p10 ≠ p11; omega, trivial⟩)
    intro hj_4_9_11
    refine join_ (σ := Nat × Nat) 3 #[true, true, true, true, true, true, true, true, true, false, true, true, false, false] (fun s => [(21, .agg #[.int .i64 xa, .int .i64 xb]), (6, .pointer (some ⟨s.1, 0, none⟩)), (7, .pointer (some ⟨s.2, 0, none⟩))]) (fun s wx => (B3 w wx (.cells #[.int .i64 an, .int .i64 ad] 29) (.cells #[.int .i64 bn, .int .i64 bd] 29) (.cells #[.int .i64 0, .int .i64 0] 29)) ∧ wx.heap[s.1]? = some (.cells #[.int .i64 0, .int .i64 0] 130 (0, 0)) ∧ w.heap.size + 3 ≤ s.1 ∧ wx.heap[s.2]? = some (.cells #[.int .i64 0, .int .i64 0] 130 (0, 0)) ∧ w.heap.size + 3 ≤ s.2 ∧ s.1 ≠ s.2 ∧ True) ?c_4_10_11 ?_
    case c_4_10_11 =>
      rintro ⟨p10, p11⟩ wN hF
      obtain ⟨hHeld, hb10, hl10, hb11, hl11, hn10_11, _⟩ := hF
      replace hb10 : wN.heap[p10]? = some (.cells #[.int .i64 0, .int .i64 0] 130 (0, 0)) := hb10
      replace hl10 : w.heap.size + 3 ≤ p10 := hl10
      replace hb11 : wN.heap[p11]? = some (.cells #[.int .i64 0, .int .i64 0] 130 (0, 0)) := hb11
      replace hl11 : w.heap.size + 3 ≤ p11 := hl11
      replace hn10_11 : p10 ≠ p11 := hn10_11
      refine norm_ (a' := ?_) ?_ ?_
      rotate_left
      · simp only [putAll, Act.put, List.setIfInBounds_toArray, List.set_cons_zero, List.set_cons_succ, i64_w, i32_w]
        rfl
      refine one_ (i := 9) (N := some 26) #[true, true, true, true, true, true, true, true, true, true, true, true, false, false] rfl rfl (by kernel_rfl) (by decide) (fun K hK => ?_)
      refine goes_ Try.func73 (by kernel_rfl) rfl #[.int .i64 bn, .int .i64 ad] (by rfl) rfl rfl (by (try simp only [List.map_toArray, List.map_cons, List.map_nil]); first | done | rfl) ?_
      refine (ratio_shared.calls (big + 1) bn ad ya yb _ hs2).mono ?_
      rintro e_ w_ ⟨rfl, hb_⟩
      refine ⟨_, rfl, ?_⟩
      have hS_ := (hHeld.step hb_)
      refine hK.out _ _ hS_ (fun hHeld_ => ?_)
      clear hK K
      exact norm_ (by rfl) (hj_4_9_10_11 (p10, p11) w_ ⟨hS_, blk_below hb10 hb_, hl10, blk_below hb11 hb_, hl11, hn10_11, trivial⟩)
    intro hj_4_10_11
    refine join_ (σ := Nat × Nat) 4 #[true, true, true, true, true, true, true, true, true, true, false, false, false, false] (fun s => [(21, .agg #[.int .i64 xa, .int .i64 xb]), (26, .agg #[.int .i64 ya, .int .i64 yb])]) (fun s wx => (B3 w wx (.cells #[.int .i64 an, .int .i64 ad] 29) (.cells #[.int .i64 bn, .int .i64 bd] 29) (.cells #[.int .i64 0, .int .i64 0] 29)) ∧ True) ?c_4_9 ?_
    case c_4_9 =>
      rintro ⟨p10, p11⟩ wN hF
      obtain ⟨hHeld, _⟩ := hF
      refine norm_ (a' := ?_) ?_ ?_
      rotate_left
      · simp only [putAll, Act.put, List.setIfInBounds_toArray, List.set_cons_zero, List.set_cons_succ, i64_w, i32_w]
        rfl
      refine two_ (i := 10) (j := 11) (Ni := some 6) (Nj := some 7) #[true, true, true, true, true, true, true, true, true, true, true, false, false, false] #[true, true, true, true, true, true, true, true, true, true, false, true, false, false] rfl rfl rfl rfl (by kernel_rfl) (by decide) (by decide) (fun K hK => ?_) (fun K hK => ?_)
      · refine box_step (by rfl) (N := 6) rfl (cs := #[.int .i64 0, .int .i64 0]) (t := 130) ?_ ?_
        · first
            | (go_simp; done)
            | (go_simp; rfl)
        intro p10 hp_ w_ hbox_ hB_
        have hS_ := (hHeld.step hB_)
        have hz_ := hHeld.size
        refine hK.out _ _ hS_ (fun hHeld_ => ?_)
        clear hK K
        exact norm_ (by rfl) (hj_4_9_10 (p10, 0) w_ ⟨hS_, hbox_, by show w.heap.size + 3 ≤ p10; omega, trivial⟩)
      · refine box_step (by rfl) (N := 7) rfl (cs := #[.int .i64 0, .int .i64 0]) (t := 130) ?_ ?_
        · first
            | (go_simp; done)
            | (go_simp; rfl)
        intro p11 hp_ w_ hbox_ hB_
        have hS_ := (hHeld.step hB_)
        have hz_ := hHeld.size
        refine hK.out _ _ hS_ (fun hHeld_ => ?_)
        clear hK K
        exact norm_ (by rfl) (hj_4_9_11 (0, p11) w_ ⟨hS_, hbox_, by show w.heap.size + 3 ≤ p11; omega, trivial⟩)
    intro hj_4_9
    refine join_ (σ := Nat × Nat) 4 #[true, true, true, true, true, true, true, true, true, false, true, false, false, false] (fun s => [(21, .agg #[.int .i64 xa, .int .i64 xb]), (6, .pointer (some ⟨s.1, 0, none⟩))]) (fun s wx => (B3 w wx (.cells #[.int .i64 an, .int .i64 ad] 29) (.cells #[.int .i64 bn, .int .i64 bd] 29) (.cells #[.int .i64 0, .int .i64 0] 29)) ∧ wx.heap[s.1]? = some (.cells #[.int .i64 0, .int .i64 0] 130 (0, 0)) ∧ w.heap.size + 3 ≤ s.1 ∧ True) ?c_4_10 ?_
    case c_4_10 =>
      rintro ⟨p10, p11⟩ wN hF
      obtain ⟨hHeld, hb10, hl10, _⟩ := hF
      replace hb10 : wN.heap[p10]? = some (.cells #[.int .i64 0, .int .i64 0] 130 (0, 0)) := hb10
      replace hl10 : w.heap.size + 3 ≤ p10 := hl10
      refine norm_ (a' := ?_) ?_ ?_
      rotate_left
      · simp only [putAll, Act.put, List.setIfInBounds_toArray, List.set_cons_zero, List.set_cons_succ, i64_w, i32_w]
        rfl
      refine two_ (i := 9) (j := 11) (Ni := some 26) (Nj := some 7) #[true, true, true, true, true, true, true, true, true, true, true, false, false, false] #[true, true, true, true, true, true, true, true, true, false, true, true, false, false] rfl rfl rfl rfl (by kernel_rfl) (by decide) (by decide) (fun K hK => ?_) (fun K hK => ?_)
      · refine goes_ Try.func73 (by kernel_rfl) rfl #[.int .i64 bn, .int .i64 ad] (by rfl) rfl rfl (by (try simp only [List.map_toArray, List.map_cons, List.map_nil]); first | done | rfl) ?_
        refine (ratio_shared.calls (big + 1) bn ad ya yb _ hs2).mono ?_
        rintro e_ w_ ⟨rfl, hb_⟩
        refine ⟨_, rfl, ?_⟩
        have hS_ := (hHeld.step hb_)
        refine hK.out _ _ hS_ (fun hHeld_ => ?_)
        clear hK K
        exact norm_ (by rfl) (hj_4_9_10 (p10, 0) w_ ⟨hS_, blk_below hb10 hb_, hl10, trivial⟩)
      · refine box_step (by rfl) (N := 7) rfl (cs := #[.int .i64 0, .int .i64 0]) (t := 130) ?_ ?_
        · first
            | (go_simp; done)
            | (go_simp; rfl)
        intro p11 hp_ w_ hbox_ hB_
        have hS_ := (hHeld.step hB_)
        have hz_ := hHeld.size
        have hlt10 := blk_lt hb10
        refine hK.out _ _ hS_ (fun hHeld_ => ?_)
        clear hK K
        exact norm_ (by rfl) (hj_4_10_11 (p10, p11) w_ ⟨hS_, blk_below hb10 hB_, hl10, hbox_, by show w.heap.size + 3 ≤ p11; omega, by show p10 ≠ p11; omega, trivial⟩)
    intro hj_4_10
    refine join_ (σ := Nat × Nat) 4 #[true, true, true, true, true, true, true, true, true, false, false, true, false, false] (fun s => [(21, .agg #[.int .i64 xa, .int .i64 xb]), (7, .pointer (some ⟨s.2, 0, none⟩))]) (fun s wx => (B3 w wx (.cells #[.int .i64 an, .int .i64 ad] 29) (.cells #[.int .i64 bn, .int .i64 bd] 29) (.cells #[.int .i64 0, .int .i64 0] 29)) ∧ wx.heap[s.2]? = some (.cells #[.int .i64 0, .int .i64 0] 130 (0, 0)) ∧ w.heap.size + 3 ≤ s.2 ∧ True) ?c_4_11 ?_
    case c_4_11 =>
      rintro ⟨p10, p11⟩ wN hF
      obtain ⟨hHeld, hb11, hl11, _⟩ := hF
      replace hb11 : wN.heap[p11]? = some (.cells #[.int .i64 0, .int .i64 0] 130 (0, 0)) := hb11
      replace hl11 : w.heap.size + 3 ≤ p11 := hl11
      refine norm_ (a' := ?_) ?_ ?_
      rotate_left
      · simp only [putAll, Act.put, List.setIfInBounds_toArray, List.set_cons_zero, List.set_cons_succ, i64_w, i32_w]
        rfl
      refine two_ (i := 9) (j := 10) (Ni := some 26) (Nj := some 6) #[true, true, true, true, true, true, true, true, true, true, false, true, false, false] #[true, true, true, true, true, true, true, true, true, false, true, true, false, false] rfl rfl rfl rfl (by kernel_rfl) (by decide) (by decide) (fun K hK => ?_) (fun K hK => ?_)
      · refine goes_ Try.func73 (by kernel_rfl) rfl #[.int .i64 bn, .int .i64 ad] (by rfl) rfl rfl (by (try simp only [List.map_toArray, List.map_cons, List.map_nil]); first | done | rfl) ?_
        refine (ratio_shared.calls (big + 1) bn ad ya yb _ hs2).mono ?_
        rintro e_ w_ ⟨rfl, hb_⟩
        refine ⟨_, rfl, ?_⟩
        have hS_ := (hHeld.step hb_)
        refine hK.out _ _ hS_ (fun hHeld_ => ?_)
        clear hK K
        exact norm_ (by rfl) (hj_4_9_11 (0, p11) w_ ⟨hS_, blk_below hb11 hb_, hl11, trivial⟩)
      · refine box_step (by rfl) (N := 6) rfl (cs := #[.int .i64 0, .int .i64 0]) (t := 130) ?_ ?_
        · first
            | (go_simp; done)
            | (go_simp; rfl)
        intro p10 hp_ w_ hbox_ hB_
        have hS_ := (hHeld.step hB_)
        have hz_ := hHeld.size
        have hlt11 := blk_lt hb11
        refine hK.out _ _ hS_ (fun hHeld_ => ?_)
        clear hK K
        exact norm_ (by rfl) (hj_4_10_11 (p10, p11) w_ ⟨hS_, hbox_, by show w.heap.size + 3 ≤ p10; omega, blk_below hb11 hB_, hl11, by show p10 ≠ p11; omega, trivial⟩)
    intro hj_4_11
    refine join_ (σ := Nat × Nat) 4 #[true, true, true, true, false, true, true, true, true, false, true, true, false, false] (fun s => [(6, .pointer (some ⟨s.1, 0, none⟩)), (7, .pointer (some ⟨s.2, 0, none⟩))]) (fun s wx => (B3 w wx (.cells #[.int .i64 an, .int .i64 ad] 29) (.cells #[.int .i64 bn, .int .i64 bd] 29) (.cells #[.int .i64 0, .int .i64 0] 29)) ∧ wx.heap[s.1]? = some (.cells #[.int .i64 0, .int .i64 0] 130 (0, 0)) ∧ w.heap.size + 3 ≤ s.1 ∧ wx.heap[s.2]? = some (.cells #[.int .i64 0, .int .i64 0] 130 (0, 0)) ∧ w.heap.size + 3 ≤ s.2 ∧ s.1 ≠ s.2 ∧ True) ?c_10_11 ?_
    case c_10_11 =>
      rintro ⟨p10, p11⟩ wN hF
      obtain ⟨hHeld, hb10, hl10, hb11, hl11, hn10_11, _⟩ := hF
      replace hb10 : wN.heap[p10]? = some (.cells #[.int .i64 0, .int .i64 0] 130 (0, 0)) := hb10
      replace hl10 : w.heap.size + 3 ≤ p10 := hl10
      replace hb11 : wN.heap[p11]? = some (.cells #[.int .i64 0, .int .i64 0] 130 (0, 0)) := hb11
      replace hl11 : w.heap.size + 3 ≤ p11 := hl11
      replace hn10_11 : p10 ≠ p11 := hn10_11
      refine norm_ (a' := ?_) ?_ ?_
      rotate_left
      · simp only [putAll, Act.put, List.setIfInBounds_toArray, List.set_cons_zero, List.set_cons_succ, i64_w, i32_w]
        rfl
      refine one_ (i := 4) (N := some 21) #[true, true, true, true, true, true, true, true, true, false, true, true, false, false] rfl rfl (by kernel_rfl) (by decide) (fun K hK => ?_)
      refine goes_ Try.func73 (by kernel_rfl) rfl #[.int .i64 an, .int .i64 bd] (by rfl) rfl rfl (by (try simp only [List.map_toArray, List.map_cons, List.map_nil]); first | done | rfl) ?_
      refine (ratio_shared.calls (big + 1) an bd xa xb _ hs1).mono ?_
      rintro e_ w_ ⟨rfl, hb_⟩
      refine ⟨_, rfl, ?_⟩
      have hS_ := (hHeld.step hb_)
      refine hK.out _ _ hS_ (fun hHeld_ => ?_)
      clear hK K
      exact norm_ (by rfl) (hj_4_10_11 (p10, p11) w_ ⟨hS_, blk_below hb10 hb_, hl10, blk_below hb11 hb_, hl11, hn10_11, trivial⟩)
    intro hj_10_11
    refine join_ (σ := Nat × Nat) 5 #[true, true, true, true, true, true, true, true, true, false, false, false, false, false] (fun s => [(21, .agg #[.int .i64 xa, .int .i64 xb])]) (fun s wx => (B3 w wx (.cells #[.int .i64 an, .int .i64 ad] 29) (.cells #[.int .i64 bn, .int .i64 bd] 29) (.cells #[.int .i64 0, .int .i64 0] 29)) ∧ True) ?c_4 ?_
    case c_4 =>
      rintro ⟨p10, p11⟩ wN hF
      obtain ⟨hHeld, _⟩ := hF
      refine norm_ (a' := ?_) ?_ ?_
      rotate_left
      · simp only [putAll, Act.put, List.setIfInBounds_toArray, List.set_cons_zero, List.set_cons_succ, i64_w, i32_w]
        rfl
      refine three_ (i := 9) (j := 10) (k := 11) (Ni := some 26) (Nj := some 6) (Nk := some 7) #[true, true, true, true, true, true, true, true, true, true, false, false, false, false] #[true, true, true, true, true, true, true, true, true, false, true, false, false, false] #[true, true, true, true, true, true, true, true, true, false, false, true, false, false] rfl rfl rfl rfl rfl rfl (by kernel_rfl) (by decide) (by decide) (by decide) (fun K hK => ?_) (fun K hK => ?_) (fun K hK => ?_)
      · refine goes_ Try.func73 (by kernel_rfl) rfl #[.int .i64 bn, .int .i64 ad] (by rfl) rfl rfl (by (try simp only [List.map_toArray, List.map_cons, List.map_nil]); first | done | rfl) ?_
        refine (ratio_shared.calls (big + 1) bn ad ya yb _ hs2).mono ?_
        rintro e_ w_ ⟨rfl, hb_⟩
        refine ⟨_, rfl, ?_⟩
        have hS_ := (hHeld.step hb_)
        refine hK.out _ _ hS_ (fun hHeld_ => ?_)
        clear hK K
        exact norm_ (by rfl) (hj_4_9 (0, 0) w_ ⟨hS_, trivial⟩)
      · refine box_step (by rfl) (N := 6) rfl (cs := #[.int .i64 0, .int .i64 0]) (t := 130) ?_ ?_
        · first
            | (go_simp; done)
            | (go_simp; rfl)
        intro p10 hp_ w_ hbox_ hB_
        have hS_ := (hHeld.step hB_)
        have hz_ := hHeld.size
        refine hK.out _ _ hS_ (fun hHeld_ => ?_)
        clear hK K
        exact norm_ (by rfl) (hj_4_10 (p10, 0) w_ ⟨hS_, hbox_, by show w.heap.size + 3 ≤ p10; omega, trivial⟩)
      · refine box_step (by rfl) (N := 7) rfl (cs := #[.int .i64 0, .int .i64 0]) (t := 130) ?_ ?_
        · first
            | (go_simp; done)
            | (go_simp; rfl)
        intro p11 hp_ w_ hbox_ hB_
        have hS_ := (hHeld.step hB_)
        have hz_ := hHeld.size
        refine hK.out _ _ hS_ (fun hHeld_ => ?_)
        clear hK K
        exact norm_ (by rfl) (hj_4_11 (0, p11) w_ ⟨hS_, hbox_, by show w.heap.size + 3 ≤ p11; omega, trivial⟩)
    intro hj_4
    refine join_ (σ := Nat × Nat) 5 #[true, true, true, true, false, true, true, true, true, false, true, false, false, false] (fun s => [(6, .pointer (some ⟨s.1, 0, none⟩))]) (fun s wx => (B3 w wx (.cells #[.int .i64 an, .int .i64 ad] 29) (.cells #[.int .i64 bn, .int .i64 bd] 29) (.cells #[.int .i64 0, .int .i64 0] 29)) ∧ wx.heap[s.1]? = some (.cells #[.int .i64 0, .int .i64 0] 130 (0, 0)) ∧ w.heap.size + 3 ≤ s.1 ∧ True) ?c_10 ?_
    case c_10 =>
      rintro ⟨p10, p11⟩ wN hF
      obtain ⟨hHeld, hb10, hl10, _⟩ := hF
      replace hb10 : wN.heap[p10]? = some (.cells #[.int .i64 0, .int .i64 0] 130 (0, 0)) := hb10
      replace hl10 : w.heap.size + 3 ≤ p10 := hl10
      refine norm_ (a' := ?_) ?_ ?_
      rotate_left
      · simp only [putAll, Act.put, List.setIfInBounds_toArray, List.set_cons_zero, List.set_cons_succ, i64_w, i32_w]
        rfl
      refine two_ (i := 4) (j := 11) (Ni := some 21) (Nj := some 7) #[true, true, true, true, true, true, true, true, true, false, true, false, false, false] #[true, true, true, true, false, true, true, true, true, false, true, true, false, false] rfl rfl rfl rfl (by kernel_rfl) (by decide) (by decide) (fun K hK => ?_) (fun K hK => ?_)
      · refine goes_ Try.func73 (by kernel_rfl) rfl #[.int .i64 an, .int .i64 bd] (by rfl) rfl rfl (by (try simp only [List.map_toArray, List.map_cons, List.map_nil]); first | done | rfl) ?_
        refine (ratio_shared.calls (big + 1) an bd xa xb _ hs1).mono ?_
        rintro e_ w_ ⟨rfl, hb_⟩
        refine ⟨_, rfl, ?_⟩
        have hS_ := (hHeld.step hb_)
        refine hK.out _ _ hS_ (fun hHeld_ => ?_)
        clear hK K
        exact norm_ (by rfl) (hj_4_10 (p10, 0) w_ ⟨hS_, blk_below hb10 hb_, hl10, trivial⟩)
      · refine box_step (by rfl) (N := 7) rfl (cs := #[.int .i64 0, .int .i64 0]) (t := 130) ?_ ?_
        · first
            | (go_simp; done)
            | (go_simp; rfl)
        intro p11 hp_ w_ hbox_ hB_
        have hS_ := (hHeld.step hB_)
        have hz_ := hHeld.size
        have hlt10 := blk_lt hb10
        refine hK.out _ _ hS_ (fun hHeld_ => ?_)
        clear hK K
        exact norm_ (by rfl) (hj_10_11 (p10, p11) w_ ⟨hS_, blk_below hb10 hB_, hl10, hbox_, by show w.heap.size + 3 ≤ p11; omega, by show p10 ≠ p11; omega, trivial⟩)
    intro hj_10
    refine join_ (σ := Nat × Nat) 5 #[true, true, true, true, false, true, true, true, true, false, false, true, false, false] (fun s => [(7, .pointer (some ⟨s.2, 0, none⟩))]) (fun s wx => (B3 w wx (.cells #[.int .i64 an, .int .i64 ad] 29) (.cells #[.int .i64 bn, .int .i64 bd] 29) (.cells #[.int .i64 0, .int .i64 0] 29)) ∧ wx.heap[s.2]? = some (.cells #[.int .i64 0, .int .i64 0] 130 (0, 0)) ∧ w.heap.size + 3 ≤ s.2 ∧ True) ?c_11 ?_
    case c_11 =>
      rintro ⟨p10, p11⟩ wN hF
      obtain ⟨hHeld, hb11, hl11, _⟩ := hF
      replace hb11 : wN.heap[p11]? = some (.cells #[.int .i64 0, .int .i64 0] 130 (0, 0)) := hb11
      replace hl11 : w.heap.size + 3 ≤ p11 := hl11
      refine norm_ (a' := ?_) ?_ ?_
      rotate_left
      · simp only [putAll, Act.put, List.setIfInBounds_toArray, List.set_cons_zero, List.set_cons_succ, i64_w, i32_w]
        rfl
      refine two_ (i := 4) (j := 10) (Ni := some 21) (Nj := some 6) #[true, true, true, true, true, true, true, true, true, false, false, true, false, false] #[true, true, true, true, false, true, true, true, true, false, true, true, false, false] rfl rfl rfl rfl (by kernel_rfl) (by decide) (by decide) (fun K hK => ?_) (fun K hK => ?_)
      · refine goes_ Try.func73 (by kernel_rfl) rfl #[.int .i64 an, .int .i64 bd] (by rfl) rfl rfl (by (try simp only [List.map_toArray, List.map_cons, List.map_nil]); first | done | rfl) ?_
        refine (ratio_shared.calls (big + 1) an bd xa xb _ hs1).mono ?_
        rintro e_ w_ ⟨rfl, hb_⟩
        refine ⟨_, rfl, ?_⟩
        have hS_ := (hHeld.step hb_)
        refine hK.out _ _ hS_ (fun hHeld_ => ?_)
        clear hK K
        exact norm_ (by rfl) (hj_4_11 (0, p11) w_ ⟨hS_, blk_below hb11 hb_, hl11, trivial⟩)
      · refine box_step (by rfl) (N := 6) rfl (cs := #[.int .i64 0, .int .i64 0]) (t := 130) ?_ ?_
        · first
            | (go_simp; done)
            | (go_simp; rfl)
        intro p10 hp_ w_ hbox_ hB_
        have hS_ := (hHeld.step hB_)
        have hz_ := hHeld.size
        have hlt11 := blk_lt hb11
        refine hK.out _ _ hS_ (fun hHeld_ => ?_)
        clear hK K
        exact norm_ (by rfl) (hj_10_11 (p10, p11) w_ ⟨hS_, hbox_, by show w.heap.size + 3 ≤ p10; omega, blk_below hb11 hB_, hl11, by show p10 ≠ p11; omega, trivial⟩)
    intro hj_11
    refine three_ (i := 4) (j := 10) (k := 11) (Ni := some 21) (Nj := some 6) (Nk := some 7) #[true, true, true, true, true, true, true, true, true, false, false, false, false, false] #[true, true, true, true, false, true, true, true, true, false, true, false, false, false] #[true, true, true, true, false, true, true, true, true, false, false, true, false, false] rfl rfl rfl rfl rfl rfl (by kernel_rfl) (by decide) (by decide) (by decide) (fun K hK => ?_) (fun K hK => ?_) (fun K hK => ?_)
    · refine goes_ Try.func73 (by kernel_rfl) rfl #[.int .i64 an, .int .i64 bd] (by rfl) rfl rfl (by (try simp only [List.map_toArray, List.map_cons, List.map_nil]); first | done | rfl) ?_
      refine (ratio_shared.calls (big + 1) an bd xa xb _ hs1).mono ?_
      rintro e_ w_ ⟨rfl, hb_⟩
      refine ⟨_, rfl, ?_⟩
      have hS_ := (hHeld.step hb_)
      refine hK.out _ _ hS_ (fun hHeld_ => ?_)
      clear hK K
      exact norm_ (by rfl) (hj_4 (0, 0) w_ ⟨hS_, trivial⟩)
    · refine box_step (by rfl) (N := 6) rfl (cs := #[.int .i64 0, .int .i64 0]) (t := 130) ?_ ?_
      · first
          | (go_simp; done)
          | (go_simp; rfl)
      intro p10 hp_ w_ hbox_ hB_
      have hS_ := (hHeld.step hB_)
      have hz_ := hHeld.size
      refine hK.out _ _ hS_ (fun hHeld_ => ?_)
      clear hK K
      exact norm_ (by rfl) (hj_10 (p10, 0) w_ ⟨hS_, hbox_, by show w.heap.size + 3 ≤ p10; omega, trivial⟩)
    · refine box_step (by rfl) (N := 7) rfl (cs := #[.int .i64 0, .int .i64 0]) (t := 130) ?_ ?_
      · first
          | (go_simp; done)
          | (go_simp; rfl)
      intro p11 hp_ w_ hbox_ hB_
      have hS_ := (hHeld.step hB_)
      have hz_ := hHeld.size
      refine hK.out _ _ hS_ (fun hHeld_ => ?_)
      clear hK K
      exact norm_ (by rfl) (hj_11 (0, p11) w_ ⟨hS_, hbox_, by show w.heap.size + 3 ≤ p11; omega, trivial⟩)
  clear hHeld
  rintro ⟨p10, p11⟩ wN hF
  obtain ⟨hHeld, hb10, hl10, hb11, hl11, hn10_11, _⟩ := hF
  replace hb10 : wN.heap[p10]? = some (.cells #[.int .i64 0, .int .i64 0] 130 (0, 0)) := hb10
  replace hl10 : w.heap.size + 3 ≤ p10 := hl10
  replace hb11 : wN.heap[p11]? = some (.cells #[.int .i64 0, .int .i64 0] 130 (0, 0)) := hb11
  replace hl11 : w.heap.size + 3 ≤ p11 := hl11
  replace hn10_11 : p10 ≠ p11 := hn10_11
  refine norm_ (a' := ?_) ?_ ?_
  rotate_left
  · simp only [putAll, Act.put, List.setIfInBounds_toArray, List.set_cons_zero, List.set_cons_succ, i64_w, i32_w]
    rfl
  have hn11_10 := Ne.symm hn10_11
  have c0 : wN.cell? ⟨p10, 0, none⟩ = some (.int .i64 0) := blk_cell hb10 0
  have cf0 : wN.frozen? ⟨p10, 0, none⟩ = false := blk_frozen hb10 0
  have c1 : wN.cell? ⟨p10, 1, none⟩ = some (.int .i64 0) := blk_cell hb10 1
  have cf1 : wN.frozen? ⟨p10, 1, none⟩ = false := blk_frozen hb10 1
  have d0 : wN.cell? ⟨p11, 0, none⟩ = some (.int .i64 0) := blk_cell hb11 0
  have df0 : wN.frozen? ⟨p11, 0, none⟩ = false := blk_frozen hb11 0
  have d1 : wN.cell? ⟨p11, 1, none⟩ = some (.int .i64 0) := blk_cell hb11 1
  have df1 : wN.frozen? ⟨p11, 1, none⟩ = false := blk_frozen hb11 1
  refine one_ (i := 12) (N := none) #[true, true, true, true, true, true, true, true, true, true, true, true, true, false] rfl rfl (by kernel_rfl) (by decide) (fun K hK => ?_)
  refine skip_ (w1 := (wN.setCell ⟨p10, 0, none⟩ (.int .i64 xa)).setCell ⟨p10, 1, none⟩ (.int .i64 xb)) (by rfl) rfl ?_ ?_
  · first
    | (go_simp; done)
    | (go_simp; rfl)
  refine hK.out _ _ ((hHeld.far (p := ⟨p10, 0, none⟩) hl10 (.int .i64 xa)).far (p := ⟨p10, 1, none⟩) hl10 (.int .i64 xb)) (fun hHeld => ?_)
  clear hK K
  refine norm_ (a' := ?_) ?_ ?_
  rotate_left
  · rfl
  refine one_ (i := 13) (N := none) #[true, true, true, true, true, true, true, true, true, true, true, true, true, true] rfl rfl (by kernel_rfl) (by decide) (fun K hK => ?_)
  refine skip_ (w1 := (((wN.setCell ⟨p10, 0, none⟩ (.int .i64 xa)).setCell ⟨p10, 1, none⟩ (.int .i64 xb)).setCell ⟨p11, 0, none⟩ (.int .i64 ya)).setCell ⟨p11, 1, none⟩ (.int .i64 yb)) (by rfl) rfl ?_ ?_
  · first
    | (go_simp; done)
    | (go_simp; rfl)
  refine hK.out _ _ ((hHeld.far (p := ⟨p11, 0, none⟩) hl11 (.int .i64 ya)).far (p := ⟨p11, 1, none⟩) hl11 (.int .i64 yb)) (fun hHeld => ?_)
  clear hK K
  refine norm_ (a' := ?_) ?_ ?_
  rotate_left
  · rfl
  refine done_ (by kernel_rfl) ?_
  have kx := blk_far (blk_far (blk_set (blk_set hb10 0 (.int .i64 xa)) 1 (.int .i64 xb)) (p := ⟨p11, 0, none⟩) hn10_11 (.int .i64 ya)) (p := ⟨p11, 1, none⟩) hn10_11 (.int .i64 yb)
  have ky := blk_set (blk_set (blk_far (blk_far hb11 (p := ⟨p10, 0, none⟩) hn11_10 (.int .i64 xa)) (p := ⟨p10, 1, none⟩) hn11_10 (.int .i64 xb)) 0 (.int .i64 ya)) 1 (.int .i64 yb)
  clear hB
  obtain ⟨w4, hw4⟩ : ∃ w4, w4 = (((wN.setCell ⟨p10, 0, none⟩ (.int .i64 xa)).setCell ⟨p10, 1, none⟩ (.int .i64 xb)).setCell ⟨p11, 0, none⟩ (.int .i64 ya)).setCell ⟨p11, 1, none⟩ (.int .i64 yb) := ⟨_, rfl⟩
  rw [← hw4] at kx ky hHeld ⊢
  have hB := hHeld
  clear hHeld
  clear hw4 hb10 hb11 c0 c1 cf0 cf1 d0 d1 df0 df1 hn10_11 hn11_10 hl10 hl11
  have c0 : w4.cell? ⟨p10, 0, none⟩ = some (.int .i64 xa) := blk_cell kx 0
  have c1 : w4.cell? ⟨p10, 1, none⟩ = some (.int .i64 xb) := blk_cell kx 1
  have d0 : w4.cell? ⟨p11, 0, none⟩ = some (.int .i64 ya) := blk_cell ky 0
  have d1 : w4.cell? ⟨p11, 1, none⟩ = some (.int .i64 yb) := blk_cell ky 1
  have m1 := mul_eq i1 i3 (k := big + 1) (by omega)
  have m2 := mul_eq i2 i4 (k := big + 1) (by omega)
  have q1 := watched_ok (xa * ya)
  have q2 := watched_ok (xb * yb)
  have q3 := @watched_fst (xa * ya)
  have q4 := @watched_fst (xb * yb)
  obtain ⟨n, hn⟩ : ∃ n, (watched (xa * ya)).1 = n := ⟨_, rfl⟩
  obtain ⟨o1, ho1⟩ : ∃ n, (watched (xa * ya)).2 = n := ⟨_, rfl⟩
  obtain ⟨d, hd⟩ : ∃ n, (watched (xb * yb)).1 = n := ⟨_, rfl⟩
  obtain ⟨o2, ho2⟩ : ∃ n, (watched (xb * yb)).2 = n := ⟨_, rfl⟩
  rw [watched_eta (xa * ya), hn, ho1] at m1
  rw [watched_eta (xb * yb), hd, ho2] at m2
  rw [ho1] at q1
  rw [ho2] at q2
  rw [hn] at q3
  rw [hd] at q4
  clear hn ho1 hd ho2
  have Q3 := Lib.hid q3
  have Q4 := Lib.hid q4
  have Q1 := Lib.hid q1
  have Q2 := Lib.hid q2
  clear q1 q2 q3 q4
  go_wp2_with fail
  refine (whole_Mul.calls (big + 1) xa ya n o1 _ m1).mono ?_
  rintro e w5 ⟨rfl, hb5⟩
  replace kx := blk_below kx hb5.below
  replace ky := blk_below ky hb5.below
  replace hB := hB.step hb5.below
  clear hb5 c0 c1 d0 d1
  have c0 : w5.cell? ⟨p10, 0, none⟩ = some (.int .i64 xa) := blk_cell kx 0
  have c1 : w5.cell? ⟨p10, 1, none⟩ = some (.int .i64 xb) := blk_cell kx 1
  have d0 : w5.cell? ⟨p11, 0, none⟩ = some (.int .i64 ya) := blk_cell ky 0
  have d1 : w5.cell? ⟨p11, 1, none⟩ = some (.int .i64 yb) := blk_cell ky 1
  go_wp2_with fail
  refine (whole_Mul.calls (big + 1) xb yb d o2 _ m2).mono ?_
  rintro e w6 ⟨rfl, hb6⟩
  replace hB := hB.step hb6.below
  clear hb6 c0 c1 d0 d1 kx ky
  cases o1 with
  | false =>
    have hno : ¬ I64 (xa * ya) := of_decide_eq_false Q1.out.symm
    have hx_ := hB.b3
    have d_0 : w6.cell? ⟨w.heap.size + 1 + 1, 0, none⟩ = some (.int .i64 0) := blk_cell hx_ 0
    have df_0 : w6.frozen? ⟨w.heap.size + 1 + 1, 0, none⟩ = false := blk_frozen hx_ 0
    have d_1 : w6.cell? ⟨w.heap.size + 1 + 1, 1, none⟩ = some (.int .i64 0) := blk_cell hx_ 1
    have df_1 : w6.frozen? ⟨w.heap.size + 1 + 1, 1, none⟩ = false := blk_frozen hx_ 1
    go_wp2_with fail
    have k_ := (blk_set (blk_set hx_ 0 (.int .i64 0)) 1 (.int .i64 0))
    have hB_ := (Below.setCell (Below.setCell hB.be (p := ⟨w.heap.size + 1 + 1, 0, none⟩) ((by show w.heap.size ≤ w.heap.size + 1 + 1; omega)) (.int .i64 0)) (p := ⟨w.heap.size + 1 + 1, 1, none⟩) ((by show w.heap.size ≤ w.heap.size + 1 + 1; omega)) (.int .i64 0))
    obtain ⟨w_, hw_⟩ : ∃ w_, w_ = (World.setCell (World.setCell w6 ⟨w.heap.size + 1 + 1, 0, none⟩ (.int .i64 0)) ⟨w.heap.size + 1 + 1, 1, none⟩ (.int .i64 0)) := ⟨_, rfl⟩
    rw [← hw_] at k_ hB_
    try rw [← hw_]
    clear hw_
    have s_0 : w_.cell? ⟨w.heap.size + 1 + 1, 0, none⟩ = some (.int .i64 0) := blk_cell k_ 0
    have s_1 : w_.cell? ⟨w.heap.size + 1 + 1, 1, none⟩ = some (.int .i64 0) := blk_cell k_ 1
    refine bodyPost_ret (by simp [results, Try.results78, go_sem, s_0, s_1]; try rfl) rfl ?_
    rw [HM.out, if_neg (fun h => hno h.1)]
    exact ⟨rfl, hB_⟩
  | true =>
    have hy1 : I64 (xa * ya) := of_decide_eq_true Q1.out.symm
    cases o2 with
    | false =>
      have hno : ¬ I64 (xb * yb) := of_decide_eq_false Q2.out.symm
      have hx_ := hB.b3
      have d_0 : w6.cell? ⟨w.heap.size + 1 + 1, 0, none⟩ = some (.int .i64 0) := blk_cell hx_ 0
      have df_0 : w6.frozen? ⟨w.heap.size + 1 + 1, 0, none⟩ = false := blk_frozen hx_ 0
      have d_1 : w6.cell? ⟨w.heap.size + 1 + 1, 1, none⟩ = some (.int .i64 0) := blk_cell hx_ 1
      have df_1 : w6.frozen? ⟨w.heap.size + 1 + 1, 1, none⟩ = false := blk_frozen hx_ 1
      go_wp2_with fail
      have k_ := (blk_set (blk_set hx_ 0 (.int .i64 0)) 1 (.int .i64 0))
      have hB_ := (Below.setCell (Below.setCell hB.be (p := ⟨w.heap.size + 1 + 1, 0, none⟩) ((by show w.heap.size ≤ w.heap.size + 1 + 1; omega)) (.int .i64 0)) (p := ⟨w.heap.size + 1 + 1, 1, none⟩) ((by show w.heap.size ≤ w.heap.size + 1 + 1; omega)) (.int .i64 0))
      obtain ⟨w_, hw_⟩ : ∃ w_, w_ = (World.setCell (World.setCell w6 ⟨w.heap.size + 1 + 1, 0, none⟩ (.int .i64 0)) ⟨w.heap.size + 1 + 1, 1, none⟩ (.int .i64 0)) := ⟨_, rfl⟩
      rw [← hw_] at k_ hB_
      try rw [← hw_]
      clear hw_
      have s_0 : w_.cell? ⟨w.heap.size + 1 + 1, 0, none⟩ = some (.int .i64 0) := blk_cell k_ 0
      have s_1 : w_.cell? ⟨w.heap.size + 1 + 1, 1, none⟩ = some (.int .i64 0) := blk_cell k_ 1
      refine bodyPost_ret (by simp [results, Try.results78, go_sem, s_0, s_1]; try rfl) rfl ?_
      rw [HM.out, if_neg (fun h => hno h.2)]
      exact ⟨rfl, hB_⟩
    | true =>
      have hy2 : I64 (xb * yb) := of_decide_eq_true Q2.out.symm
      have H1 := Lib.hid hy1
      have H2 := Lib.hid hy2
      have en := Q3.out hy1
      have ed := Q4.out hy2
      rw [← en] at hy1
      rw [← ed] at hy2 hpos
      have EN := Lib.hid en
      have ED := Lib.hid ed
      clear en ed Q3 Q4
      go_wp2_with fail
      refine (make_calls hy1 hy2 hpos _).mono ?_
      rintro e w7 ⟨rfl, hb7⟩
      replace hB := hB.step hb7
      clear hb7
      have hx_ := hB.b3
      have d_0 : w7.cell? ⟨w.heap.size + 1 + 1, 0, none⟩ = some (.int .i64 0) := blk_cell hx_ 0
      have df_0 : w7.frozen? ⟨w.heap.size + 1 + 1, 0, none⟩ = false := blk_frozen hx_ 0
      have d_1 : w7.cell? ⟨w.heap.size + 1 + 1, 1, none⟩ = some (.int .i64 0) := blk_cell hx_ 1
      have df_1 : w7.frozen? ⟨w.heap.size + 1 + 1, 1, none⟩ = false := blk_frozen hx_ 1
      go_wp2_with fail
      have k_ := (blk_set (blk_set hx_ 0 (.int .i64 (low n d).1)) 1 (.int .i64 (low n d).2))
      have hB_ := (Below.setCell (Below.setCell hB.be (p := ⟨w.heap.size + 1 + 1, 0, none⟩) ((by show w.heap.size ≤ w.heap.size + 1 + 1; omega)) (.int .i64 (low n d).1)) (p := ⟨w.heap.size + 1 + 1, 1, none⟩) ((by show w.heap.size ≤ w.heap.size + 1 + 1; omega)) (.int .i64 (low n d).2))
      obtain ⟨w_, hw_⟩ : ∃ w_, w_ = (World.setCell (World.setCell w7 ⟨w.heap.size + 1 + 1, 0, none⟩ (.int .i64 (low n d).1)) ⟨w.heap.size + 1 + 1, 1, none⟩ (.int .i64 (low n d).2)) := ⟨_, rfl⟩
      rw [← hw_] at k_ hB_
      try rw [← hw_]
      clear hw_
      have s_0 : w_.cell? ⟨w.heap.size + 1 + 1, 0, none⟩ = some (.int .i64 (low n d).1) := blk_cell k_ 0
      have s_1 : w_.cell? ⟨w.heap.size + 1 + 1, 1, none⟩ = some (.int .i64 (low n d).2) := blk_cell k_ 1
      refine bodyPost_ret (by simp [results, Try.results78, go_sem, s_0, s_1]; try rfl) rfl ?_
      rw [HM.out, if_pos ⟨H1.out, H2.out⟩, ← EN.out, ← ED.out]
      exact ⟨rfl, hB_⟩

/-- The product: what is answered, whatever comes in. -/
theorem mul_calls {an ad bn bd : Int} (h1 : I64 an) (h2 : I64 ad) (h3 : I64 bn) (h4 : I64 bd) (w : World) :
    Calls Try.prog 78 #[.agg #[.int .i64 an, .int .i64 ad], .agg #[.int .i64 bn, .int .i64 bd]] w fun e w' => e = ans (told (Rt an ad ∧ Rt bn bd) (mulR an ad bn bd)) ∧ Below w.heap.size w w' := by
  by_cases h : Rt an ad ∧ Rt bn bd
  · refine (mul_right h1 h2 h3 h4 h.1 h.2 w).mono ?_
    rintro e w' ⟨rfl, hb⟩
    exact ⟨by simp [told, h], hb⟩
  · refine (mul_wrong h1 h2 h3 h4 h w).mono ?_
    rintro e w' ⟨rfl, hb⟩
    exact ⟨by simp [told, h], hb⟩
end Go.Proofs.Ytcldlfhnmkogeaa.RatPlain

import Derived.Test.YtcldlfhnmkogeaaRatPlain
import Derived.Test.YtcldlfhnmkogeaaHeapKit
/- A fraction made of two numbers of which the lower one is above 0, walked. -/
set_option linter.unusedVariables false
set_option linter.unusedSimpArgs false
namespace Go.Proofs.Ytcldlfhnmkogeaa.RatPlain
open Go.RowKit Go.Proofs.YtcldlfhnmkogeaaW.PrintWords Go.Proofs.YtcldlfhnmkogeaaW.PrintLast Go.Proofs.Ytcldlfhnmkogeaa.Nats Go.Proofs.Ytcldlfhnmkogeaa.HeapKit Go.Proofs.Ytcldlfhnmkogeaa.PAdd

/-- In lowest terms. -/
def low (n d : Int) : Int × Int := (n.tdiv (Int.gcd n d : Nat), d.tdiv (Int.gcd n d : Nat))
theorem exact_pos {d : Int} {g : Nat} (h0 : 0 < d) (hg : (g : Int) ∣ d) (hp : 0 < g) : 0 < d.tdiv g := by
  obtain ⟨c, rfl⟩ := hg
  rw [Int.mul_tdiv_cancel_left _ (by omega)]
  have : (g : Int) > 0 := by omega
  exact Int.pos_of_mul_pos_left (by rw [Int.mul_comm]; exact h0) this
theorem dvd_left (a b : Int) : ((Int.gcd a b : Nat) : Int) ∣ a := Int.gcd_dvd_left a b
theorem dvd_right (a b : Int) : ((Int.gcd a b : Nat) : Int) ∣ b := Int.gcd_dvd_right a b

set_option maxRecDepth 100000 in
set_option maxHeartbeats 2000000 in
theorem make_calls {n d : Int} (hn : I64 n) (hd : I64 d) (h0 : 0 < d) (w : World) :
    Calls Try.prog 76 #[.int .i64 n, .int .i64 d] w fun e w' => e = .returned (.tuple #[.agg #[.int .i64 (low n d).1, .int .i64 (low n d).2], .int .i64 0]) ∧ Below w.heap.size w w' := by
  have hg := gcd_pos (a := n) h0
  have hc := gcd_pos_eq hn hd h0 (k := big + 1) (by omega)
  have e1 : wrap64 (n.tdiv (Int.gcd n d : Nat)) = (low n d).1 := wrap_in (hn.tdiv hg)
  have e2 : wrap64 (d.tdiv (Int.gcd n d : Nat)) = (low n d).2 := wrap_in (hd.tdiv hg)
  have hp : 0 < (low n d).2 := exact_pos h0 (dvd_right n d) hg
  obtain ⟨x, hx⟩ : ∃ x, (low n d).1 = x := ⟨_, rfl⟩
  obtain ⟨y, hy⟩ : ∃ y, (low n d).2 = y := ⟨_, rfl⟩
  rw [hx] at e1
  rw [hy] at e2 hp
  rw [hx, hy]
  clear hx hy
  obtain ⟨g, hgg⟩ : ∃ g, ((Int.gcd n d : Nat) : Int) = g := ⟨_, rfl⟩
  rw [hgg] at e1 e2 hc
  have hg1 : ¬ g = 0 := by omega
  have hg2 : (g == 0) = false := by simp [hg1]
  have hd1 : (d == 0) = false := by simp; omega
  have hd2 : ¬ d = 0 := by omega
  have hy1 : decide (y < 0) = false := by simp; omega
  have hy2 : ¬ y < 0 := by omega
  have E1 := Lib.hid e1
  have E2 := Lib.hid e2
  clear hgg hg e1 e2
  go_enter Try.func76, Try.ntmps76
  go_wp2_with fail
  refine (whole_Gcd.calls (big + 1) n d g true _ hc).mono ?_
  rintro e w1 ⟨rfl, hb1⟩
  have x1 := blk_below (blk_new w (.cells #[.int .i64 0, .int .i64 0] 29)) hb1.below
  have hB1 := bthen (below_alloc (Below.refl w.heap.size w) (.cells #[.int .i64 0, .int .i64 0] 29)) hb1.below
  go_wp2_with fail
  refine start_ (n := 9) (S := fun wx => wx.heap[w.heap.size]? = some (.cells #[.int .i64 0, .int .i64 0] 29 (0, 0)) ∧ Below w.heap.size w wx) (ds := []) #[false, false, false, false, false, false, false, false, false] (by kernel_rfl) rfl rfl ⟨blk_drew x1, below_drew1 hB1⟩ (fun hHeld => ?_)
  refine pure_ (i := 0) (N := some 28) (v := ?_) (a' := ?_) #[true, false, false, false, false, false, false, false, false] rfl rfl (by kernel_rfl) (fun _ _ _ h => h) (Or.inl ⟨by rfl, ?_⟩) ?_ ?_
  rotate_left
  · intro w'
    go_simp
    try with_reducible rfl
  rotate_left
  · simp only [Act.put, List.setIfInBounds_toArray, List.set_cons_zero, List.set_cons_succ, i64_w, i32_w]
    rfl
  refine pure_ (i := 1) (N := some 29) (v := ?_) (a' := ?_) #[true, true, false, false, false, false, false, false, false] rfl rfl (by kernel_rfl) (fun _ _ _ h => h) (Or.inl ⟨by rfl, ?_⟩) ?_ ?_
  rotate_left
  · intro w'
    go_simp
    try with_reducible rfl
  rotate_left
  · simp only [Act.put, List.setIfInBounds_toArray, List.set_cons_zero, List.set_cons_succ, i64_w, i32_w]
    rfl
  refine pure_ (i := 2) (N := some 30) (v := ?_) (a' := ?_) #[true, true, true, false, false, false, false, false, false] rfl rfl (by kernel_rfl) (fun _ _ _ h => h) (Or.inl ⟨by rfl, ?_⟩) ?_ ?_
  rotate_left
  · intro w'
    go_simp
    try with_reducible rfl
  rotate_left
  · simp only [Act.put, List.setIfInBounds_toArray, List.set_cons_zero, List.set_cons_succ, i64_w, i32_w]
    rfl
  refine pure_ (i := 3) (N := some 31) (v := ?_) (a' := ?_) #[true, true, true, true, false, false, false, false, false] rfl rfl (by kernel_rfl) (fun _ _ _ h => h) (Or.inl ⟨by rfl, ?_⟩) ?_ ?_
  rotate_left
  · intro w'
    go_simp
    try with_reducible rfl
  rotate_left
  · simp only [Act.put, List.setIfInBounds_toArray, List.set_cons_zero, List.set_cons_succ, i64_w, i32_w]
    rfl
  refine pure_ (i := 4) (N := some 32) (v := ?_) (a' := ?_) #[true, true, true, true, true, false, false, false, false] rfl rfl (by kernel_rfl) (fun _ _ _ h => h) (Or.inl ⟨by rfl, ?_⟩) ?_ ?_
  rotate_left
  · intro w'
    go_simp
    try with_reducible rfl
  rotate_left
  · simp only [Act.put, List.setIfInBounds_toArray, List.set_cons_zero, List.set_cons_succ, i64_w, i32_w]
    rfl
  refine pure_ (i := 5) (N := some 33) (v := ?_) (a' := ?_) #[true, true, true, true, true, true, false, false, false] rfl rfl (by kernel_rfl) (fun _ _ _ h => h) (Or.inl ⟨by rfl, ?_⟩) ?_ ?_
  rotate_left
  · intro w'
    go_simp
    try with_reducible rfl
  rotate_left
  · simp only [Act.put, List.setIfInBounds_toArray, List.set_cons_zero, List.set_cons_succ, i64_w, i32_w]
    rfl
  refine pure_ (i := 6) (N := some 34) (v := ?_) (a' := ?_) #[true, true, true, true, true, true, true, false, false] rfl rfl (by kernel_rfl) (fun _ _ _ h => h) (Or.inl ⟨by rfl, ?_⟩) ?_ ?_
  rotate_left
  · intro w'
    go_simp
    try with_reducible rfl
  rotate_left
  · simp only [Act.put, List.setIfInBounds_toArray, List.set_cons_zero, List.set_cons_succ, i64_w, i32_w]
    rfl
  refine one_ (i := 7) (N := some 8) #[true, true, true, true, true, true, true, true, false] rfl rfl (by kernel_rfl) (by decide) (fun K hK => ?_)
  refine box_step (by rfl) (N := 8) rfl (cs := #[.int .i64 0, .int .i64 0]) (t := 130) ?_ ?_
  · first
      | (go_simp; done)
      | (go_simp; rfl)
  intro p8 hp8 w6 hb6 hB6
  have hlt := blk_lt hHeld.1
  have c0 : w6.cell? ⟨p8, 0, none⟩ = some (.int .i64 0) := blk_cell hb6 0
  have c1 : w6.cell? ⟨p8, 1, none⟩ = some (.int .i64 0) := blk_cell hb6 1
  have f0 : w6.frozen? ⟨p8, 0, none⟩ = false := blk_frozen hb6 0
  have f1 : w6.frozen? ⟨p8, 1, none⟩ = false := blk_frozen hb6 1
  have hpp : w.heap.size ≠ p8 := by omega
  have hwp : w.heap.size ≤ p8 := by omega
  clear hp8
  refine hK.out _ _ ⟨blk_below hHeld.1 hB6, bthen hHeld.2 hB6⟩ (fun hHeld => ?_)
  clear hK K
  refine norm_ (a' := ?_) ?_ ?_
  rotate_left
  · show Act.put _ (some 8) _ = _
    simp only [Act.put, List.setIfInBounds_toArray, List.set_cons_zero, List.set_cons_succ, i64_w, i32_w]
    rfl
  refine one_ (i := 8) (N := none) #[true, true, true, true, true, true, true, true, true] rfl rfl (by kernel_rfl) (by decide) (fun K hK => ?_)
  refine skip_ (w1 := (w6.setCell ⟨p8, 0, none⟩ (.int .i64 (wrap64 (n.tdiv g)))).setCell ⟨p8, 1, none⟩ (.int .i64 (wrap64 (d.tdiv g)))) (by rfl) rfl ?_ ?_
  · first
    | (go_simp; done)
    | (go_simp; rfl)
  refine hK.out _ _ ⟨blk_far (blk_far hHeld.1 (p := ⟨p8, 0, none⟩) hpp _) (p := ⟨p8, 1, none⟩) hpp _, (hHeld.2.setCell (p := ⟨p8, 0, none⟩) hwp _).setCell (p := ⟨p8, 1, none⟩) hwp _⟩ (fun hHeld => ?_)
  clear hK K
  refine norm_ (a' := ?_) ?_ ?_
  rotate_left
  · rfl
  refine done_ (by kernel_rfl) ?_
  have hb7 := blk_set (blk_set hb6 0 (.int .i64 (wrap64 (n.tdiv g)))) 1 (.int .i64 (wrap64 (d.tdiv g)))
  obtain ⟨hx7, hB7⟩ := hHeld
  obtain ⟨w7, hw7⟩ : ∃ w7, w7 = (w6.setCell ⟨p8, 0, none⟩ (.int .i64 (wrap64 (n.tdiv g)))).setCell ⟨p8, 1, none⟩ (.int .i64 (wrap64 (d.tdiv g))) := ⟨_, rfl⟩
  rw [← hw7] at hb7 hx7 hB7 ⊢
  rw [E1.out, E2.out] at hb7 ⊢
  clear hw7 c0 c1 f0 f1
  have c0 : w7.cell? ⟨p8, 0, none⟩ = some (.int .i64 x) := blk_cell hb7 0
  have c1 : w7.cell? ⟨p8, 1, none⟩ = some (.int .i64 y) := blk_cell hb7 1
  have d0 : w7.cell? ⟨w.heap.size, 0, none⟩ = some (.int .i64 0) := blk_cell hx7 0
  have df0 : w7.frozen? ⟨w.heap.size, 0, none⟩ = false := blk_frozen hx7 0
  have d1 : w7.cell? ⟨w.heap.size, 1, none⟩ = some (.int .i64 0) := blk_cell hx7 1
  have df1 : w7.frozen? ⟨w.heap.size, 1, none⟩ = false := blk_frozen hx7 1
  go_wp2_with fail
  have k7 := blk_set (blk_set hx7 0 (.int .i64 x)) 1 (.int .i64 y)
  have hB8 := (hB7.setCell (p := ⟨w.heap.size, 0, none⟩) (Nat.le_refl _) (.int .i64 x)).setCell (p := ⟨w.heap.size, 1, none⟩) (Nat.le_refl _) (.int .i64 y)
  obtain ⟨w8, hw8⟩ : ∃ w8, w8 = (w7.setCell ⟨w.heap.size, 0, none⟩ (.int .i64 x)).setCell ⟨w.heap.size, 1, none⟩ (.int .i64 y) := ⟨_, rfl⟩
  rw [← hw8] at k7 hB8 ⊢
  clear hw8
  have s0 : w8.cell? ⟨w.heap.size, 0, none⟩ = some (.int .i64 x) := blk_cell k7 0
  have s1 : w8.cell? ⟨w.heap.size, 1, none⟩ = some (.int .i64 y) := blk_cell k7 1
  refine bodyPost_ret (by simp [results, Try.results76, go_sem, s0, s1]; try rfl) rfl ?_
  exact ⟨rfl, hB8⟩
end Go.Proofs.Ytcldlfhnmkogeaa.RatPlain

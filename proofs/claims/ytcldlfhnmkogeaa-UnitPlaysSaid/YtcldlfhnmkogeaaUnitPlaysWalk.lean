import Derived.Test.YtcldlfhnmkogeaaUnitMore
import Derived.Test.YtcldlfhnmkogeaaScaleLaw
import Derived.Test.YtcldlfhnmkogeaaUnitPlaysFacts
/- The law UnitPlays, walked. -/
set_option linter.unusedVariables false
set_option linter.unusedSimpArgs false
namespace Go.Proofs.Ytcldlfhnmkogeaa.UnitPlaysWalk
open Go.RowKit Go.Proofs.YtcldlfhnmkogeaaW.PrintWords Go.Proofs.YtcldlfhnmkogeaaW.PrintLast Go.Proofs.Ytcldlfhnmkogeaa.Nats Go.Proofs.Ytcldlfhnmkogeaa.HeapKit Go.Proofs.Ytcldlfhnmkogeaa.RatPlain Go.Proofs.Ytcldlfhnmkogeaa.Scale Go.Proofs.Ytcldlfhnmkogeaa.Unit Go.Proofs.Ytcldlfhnmkogeaa.UnitLike

/-- The boxes. -/
structure Pl (w wx : World) (p5 p7 p9 : Nat) (u v : URow) (nm : ByteArray) : Prop where
  b : Below w.heap.size w wx
  k5 : wx.heap[p5]? = some (.cells #[.string u.name, .int .i64 u.d0, .int .i64 u.d1, .int .i64 u.d2, .int .i64 u.d3, .int .i64 u.fn, .int .i64 u.fd, .int .i64 u.on, .int .i64 u.od, .int .i64 u.code] 70 (0, 0))
  k7 : wx.heap[p7]? = some (.cells #[.string nm, .int .i64 u.d0, .int .i64 u.d1, .int .i64 u.d2, .int .i64 u.d3, .int .i64 u.fn, .int .i64 u.fd, .int .i64 u.on, .int .i64 u.od, .int .i64 u.code] 48 (0, 0))
  k9 : wx.heap[p9]? = some (.cells #[.string v.name, .int .i64 v.d0, .int .i64 v.d1, .int .i64 v.d2, .int .i64 v.d3, .int .i64 v.fn, .int .i64 v.fd, .int .i64 v.on, .int .i64 v.od, .int .i64 v.code] 48 (0, 0))
theorem Pl.step {w wx w2 : World} {p5 p7 p9 : Nat} {u v : URow} {nm : ByteArray} (h : Pl w wx p5 p7 p9 u v nm) (hb : Below wx.heap.size wx w2) : Pl w w2 p5 p7 p9 u v nm :=
  ⟨bthen h.b hb, blk_below h.k5 hb, blk_below h.k7 hb, blk_below h.k9 hb⟩
/-- The loop's: so many were found. -/
def RelP (w4 : World) (a : ByteArray) (s12 s13 : Value) (wr : World) : Prop := ∃ k : Nat, k ≤ 25 ∧ s13 = .int .i64 (k : Int) ∧ s12 = .int .i64 (((units.take k).countP (fun u => u.name.toList == a.toList) : Nat) : Int) ∧ wr = w4
theorem count_more (a : ByteArray) {k : Nat} {x : URow} (hk : units[k]? = some x) : (units.take (k + 1)).countP (fun u => u.name.toList == a.toList) = (units.take k).countP (fun u => u.name.toList == a.toList) + (if (x.name.toList == a.toList) = true then 1 else 0) := by
  rw [List.take_add_one, hk, List.countP_append]
  simp [List.countP_cons]
theorem count_le (a : ByteArray) (k : Nat) (hk : k ≤ 25) : (units.take k).countP (fun u => u.name.toList == a.toList) ≤ 25 := Nat.le_trans List.countP_le_length (by rw [List.length_take]; omega)

set_option maxRecDepth 100000 in
set_option maxHeartbeats 4000000 in
theorem walk (a b : ByteArray) (w : World) :
    Calls Try.prog 12 #[.string a, .string b] w fun e w' => e = .returned (.bool true) ∧ Below w.heap.size w w' := by
  obtain ⟨u, v, nm, oa, ob, hk⟩ := known a b
  have hlk := like_calls a b
  obtain ⟨lk, hl⟩ : ∃ lk, likeR a b = lk := ⟨_, rfl⟩
  rw [hl] at hk
  simp only [hl] at hlk
  have HK := Lib.hid hk
  have HL := Lib.hid hlk
  have he := hk.name
  have HE := Lib.hid he
  clear hk hlk hl he
  go_enter Try.func12, Try.ntmps12
  go_wp2_with fail
  refine (UnitLaw.awake_calls _).mono ?_
  rintro e w1 ⟨rfl, hB⟩
  by_cases q0 : ((a.size : Nat) : Int) > 50
  · have t0 : decide (((a.size : Nat) : Int) > 50) = true := decide_eq_true q0
    go_wp2_with fail
    refine (UnitLaw.awake_calls _).mono ?_
    rintro e w9 ⟨rfl, hb9⟩
    replace hB := bthen hB hb9
    go_wp2_with fail
    go_ret
    exact ⟨rfl, hB⟩
  have t0 : decide (((a.size : Nat) : Int) > 50) = false := decide_eq_false q0
  by_cases q1 : ((b.size : Nat) : Int) > 50
  · have t1 : decide (((b.size : Nat) : Int) > 50) = true := decide_eq_true q1
    go_wp2_with fail
    refine (UnitLaw.awake_calls _).mono ?_
    rintro e w9 ⟨rfl, hb9⟩
    replace hB := bthen hB hb9
    go_wp2_with fail
    go_ret
    exact ⟨rfl, hB⟩
  have t1 : decide (((b.size : Nat) : Int) > 50) = false := decide_eq_false q1
  go_wp2_with fail
  refine (HK.out.fa _).mono ?_
  rintro e w2 ⟨rfl, hb2⟩
  replace hB := bthen (bthen hB hb2) (below_alloc (Below.refl _ _) (.cells #[.string u.name, .int .i64 u.d0, .int .i64 u.d1, .int .i64 u.d2, .int .i64 u.d3, .int .i64 u.fn, .int .i64 u.fd, .int .i64 u.on, .int .i64 u.od, .int .i64 u.code] 70))
  have k5 := blk_new w2 (.cells #[.string u.name, .int .i64 u.d0, .int .i64 u.d1, .int .i64 u.d2, .int .i64 u.d3, .int .i64 u.fn, .int .i64 u.fd, .int .i64 u.on, .int .i64 u.od, .int .i64 u.code] 70)
  clear hb2
  go_wp2_with fail
  refine (HK.out.ra _).mono ?_
  rintro e w3 ⟨rfl, hb3⟩
  replace hB := bthen (bthen hB hb3) (below_alloc (Below.refl _ _) (.cells #[.string nm, .int .i64 u.d0, .int .i64 u.d1, .int .i64 u.d2, .int .i64 u.d3, .int .i64 u.fn, .int .i64 u.fd, .int .i64 u.on, .int .i64 u.od, .int .i64 u.code] 48))
  replace k5 := blk_below (blk_below k5 hb3) (below_alloc (Below.refl _ _) (.cells #[.string nm, .int .i64 u.d0, .int .i64 u.d1, .int .i64 u.d2, .int .i64 u.d3, .int .i64 u.fn, .int .i64 u.fd, .int .i64 u.on, .int .i64 u.od, .int .i64 u.code] 48))
  have k7 := blk_new w3 (.cells #[.string nm, .int .i64 u.d0, .int .i64 u.d1, .int .i64 u.d2, .int .i64 u.d3, .int .i64 u.fn, .int .i64 u.fd, .int .i64 u.on, .int .i64 u.od, .int .i64 u.code] 48)
  clear hb3
  go_wp2_with fail
  refine (HK.out.rb _).mono ?_
  rintro e w4 ⟨rfl, hb4⟩
  have hP : Pl w (w4.alloc (.cells #[.string v.name, .int .i64 v.d0, .int .i64 v.d1, .int .i64 v.d2, .int .i64 v.d3, .int .i64 v.fn, .int .i64 v.fd, .int .i64 v.on, .int .i64 v.od, .int .i64 v.code] 48)) w2.heap.size w3.heap.size w4.heap.size u v nm := ⟨bthen (bthen hB hb4) (below_alloc (Below.refl _ _) _), blk_alloc (blk_below k5 hb4) _, blk_alloc (blk_below k7 hb4) _, blk_new w4 _⟩
  clear hb4 hB k5 k7
  go_wp2_with fail
  obtain ⟨p5, hp5⟩ : ∃ p, p = w2.heap.size := ⟨_, rfl⟩
  obtain ⟨p7, hp7⟩ : ∃ p, p = w3.heap.size := ⟨_, rfl⟩
  obtain ⟨p9, hp9⟩ : ∃ p, p = w4.heap.size := ⟨_, rfl⟩
  obtain ⟨w5, hw5⟩ : ∃ w5, w5 = w4.alloc (.cells #[.string v.name, .int .i64 v.d0, .int .i64 v.d1, .int .i64 v.d2, .int .i64 v.d3, .int .i64 v.fn, .int .i64 v.fd, .int .i64 v.on, .int .i64 v.od, .int .i64 v.code] 48) := ⟨_, rfl⟩
  rw [← hp5, ← hp7, ← hp9, ← hw5] at hP
  rw [← hp5, ← hp7, ← hp9, ← hw5]
  clear hp5 hp7 hp9 hw5
  have ee : (u.name.toList == nm.toList) = true := by simp [HE.out]
  have hsame := HK.out.same
  refine start_ (n := 57) (S := fun wx => Pl w wx p5 p7 p9 u v nm) (ds := []) #[false, false, false, false, false, false, false, false, false, false, false, false, false, false, false, false, false, false, false, false, false, false, false, false, false, false, false, false, false, false, false, false, false, false, false, false, false, false, false, false, false, false, false, false, false, false, false, false, false, false, false, false, false, false, false, false, false] (by kernel_rfl) rfl rfl (hP.step (below_drew (Below.refl _ _))) (fun hHeld => ?_)
  refine pure_ (i := 0) (N := some 42) (v := ?_) (a' := ?_) #[true, false, false, false, false, false, false, false, false, false, false, false, false, false, false, false, false, false, false, false, false, false, false, false, false, false, false, false, false, false, false, false, false, false, false, false, false, false, false, false, false, false, false, false, false, false, false, false, false, false, false, false, false, false, false, false, false] rfl rfl (by kernel_rfl) (fun _ _ _ h => h) (Or.inl ⟨by rfl, ?_⟩) ?_ ?_
  rotate_left
  · intro w'
    go_simp
    try with_reducible rfl
  rotate_left
  · simp only [Act.put, List.setIfInBounds_toArray, List.set_cons_zero, List.set_cons_succ, i64_w, i32_w]
    rfl
  refine pure_ (i := 1) (N := some 43) (v := ?_) (a' := ?_) #[true, true, false, false, false, false, false, false, false, false, false, false, false, false, false, false, false, false, false, false, false, false, false, false, false, false, false, false, false, false, false, false, false, false, false, false, false, false, false, false, false, false, false, false, false, false, false, false, false, false, false, false, false, false, false, false, false] rfl rfl (by kernel_rfl) (fun _ _ _ h => h) (Or.inl ⟨by rfl, ?_⟩) ?_ ?_
  rotate_left
  · intro w'
    go_simp
    try with_reducible rfl
  rotate_left
  · simp only [Act.put, List.setIfInBounds_toArray, List.set_cons_zero, List.set_cons_succ, i64_w, i32_w]
    rfl
  refine pure_ (i := 2) (N := some 44) (v := ?_) (a' := ?_) #[true, true, true, false, false, false, false, false, false, false, false, false, false, false, false, false, false, false, false, false, false, false, false, false, false, false, false, false, false, false, false, false, false, false, false, false, false, false, false, false, false, false, false, false, false, false, false, false, false, false, false, false, false, false, false, false, false] rfl rfl (by kernel_rfl) (fun _ _ _ h => h) (Or.inl ⟨by rfl, ?_⟩) ?_ ?_
  rotate_left
  · intro w'
    go_simp
    try with_reducible rfl
  rotate_left
  · simp only [Act.put, List.setIfInBounds_toArray, List.set_cons_zero, List.set_cons_succ, i64_w, i32_w]
    rfl
  refine pure_ (i := 3) (N := some 45) (v := ?_) (a' := ?_) #[true, true, true, true, false, false, false, false, false, false, false, false, false, false, false, false, false, false, false, false, false, false, false, false, false, false, false, false, false, false, false, false, false, false, false, false, false, false, false, false, false, false, false, false, false, false, false, false, false, false, false, false, false, false, false, false, false] rfl rfl (by kernel_rfl) (fun _ _ _ h => h) (Or.inl ⟨by rfl, ?_⟩) ?_ ?_
  rotate_left
  · intro w'
    go_simp
    try with_reducible rfl
  rotate_left
  · simp only [Act.put, List.setIfInBounds_toArray, List.set_cons_zero, List.set_cons_succ, i64_w, i32_w]
    rfl
  refine pure_ (i := 4) (N := some 46) (v := ?_) (a' := ?_) #[true, true, true, true, true, false, false, false, false, false, false, false, false, false, false, false, false, false, false, false, false, false, false, false, false, false, false, false, false, false, false, false, false, false, false, false, false, false, false, false, false, false, false, false, false, false, false, false, false, false, false, false, false, false, false, false, false] rfl rfl (by kernel_rfl) (fun _ _ _ h => h) (Or.inl ⟨by rfl, ?_⟩) ?_ ?_
  rotate_left
  · intro w'
    go_simp
    try with_reducible rfl
  rotate_left
  · simp only [Act.put, List.setIfInBounds_toArray, List.set_cons_zero, List.set_cons_succ, i64_w, i32_w]
    rfl
  refine take_ (i := 5) (N := some 47) (v := ?_) (a' := ?_) #[true, true, true, true, true, true, false, false, false, false, false, false, false, false, false, false, false, false, false, false, false, false, false, false, false, false, false, false, false, false, false, false, false, false, false, false, false, false, false, false, false, false, false, false, false, false, false, false, false, false, false, false, false, false, false, false, false] rfl rfl (by kernel_rfl) (fun _ _ _ h => h) (Or.inl ⟨by rfl, ?_⟩) hHeld ?_ ?_
  rotate_left
  · rintro w' hh
    have c0 : w'.cell? ⟨p5, 0, none⟩ = some (.string u.name) := blk_cell hh.k5 0
    have c1 : w'.cell? ⟨p5, 1, none⟩ = some (.int .i64 u.d0) := blk_cell hh.k5 1
    have c2 : w'.cell? ⟨p5, 2, none⟩ = some (.int .i64 u.d1) := blk_cell hh.k5 2
    have c3 : w'.cell? ⟨p5, 3, none⟩ = some (.int .i64 u.d2) := blk_cell hh.k5 3
    have c4 : w'.cell? ⟨p5, 4, none⟩ = some (.int .i64 u.d3) := blk_cell hh.k5 4
    have c5 : w'.cell? ⟨p5, 5, none⟩ = some (.int .i64 u.fn) := blk_cell hh.k5 5
    have c6 : w'.cell? ⟨p5, 6, none⟩ = some (.int .i64 u.fd) := blk_cell hh.k5 6
    have c7 : w'.cell? ⟨p5, 7, none⟩ = some (.int .i64 u.on) := blk_cell hh.k5 7
    have c8 : w'.cell? ⟨p5, 8, none⟩ = some (.int .i64 u.od) := blk_cell hh.k5 8
    have c9 : w'.cell? ⟨p5, 9, none⟩ = some (.int .i64 u.code) := blk_cell hh.k5 9
    have d0 : w'.cell? ⟨p7, 0, none⟩ = some (.string nm) := blk_cell hh.k7 0
    have d1 : w'.cell? ⟨p7, 1, none⟩ = some (.int .i64 u.d0) := blk_cell hh.k7 1
    have d2 : w'.cell? ⟨p7, 2, none⟩ = some (.int .i64 u.d1) := blk_cell hh.k7 2
    have d3 : w'.cell? ⟨p7, 3, none⟩ = some (.int .i64 u.d2) := blk_cell hh.k7 3
    have d4 : w'.cell? ⟨p7, 4, none⟩ = some (.int .i64 u.d3) := blk_cell hh.k7 4
    have d5 : w'.cell? ⟨p7, 5, none⟩ = some (.int .i64 u.fn) := blk_cell hh.k7 5
    have d6 : w'.cell? ⟨p7, 6, none⟩ = some (.int .i64 u.fd) := blk_cell hh.k7 6
    have d7 : w'.cell? ⟨p7, 7, none⟩ = some (.int .i64 u.on) := blk_cell hh.k7 7
    have d8 : w'.cell? ⟨p7, 8, none⟩ = some (.int .i64 u.od) := blk_cell hh.k7 8
    have d9 : w'.cell? ⟨p7, 9, none⟩ = some (.int .i64 u.code) := blk_cell hh.k7 9
    have f1 : w'.cell? ⟨p9, 1, none⟩ = some (.int .i64 v.d0) := blk_cell hh.k9 1
    have f2 : w'.cell? ⟨p9, 2, none⟩ = some (.int .i64 v.d1) := blk_cell hh.k9 2
    have f3 : w'.cell? ⟨p9, 3, none⟩ = some (.int .i64 v.d2) := blk_cell hh.k9 3
    have f4 : w'.cell? ⟨p9, 4, none⟩ = some (.int .i64 v.d3) := blk_cell hh.k9 4
    go_simp
    with_reducible rfl
  rotate_left
  · simp only [Act.put, List.setIfInBounds_toArray, List.set_cons_zero, List.set_cons_succ, i64_w, i32_w]
    rfl
  refine pure_ (i := 6) (N := some 48) (v := ?_) (a' := ?_) #[true, true, true, true, true, true, true, false, false, false, false, false, false, false, false, false, false, false, false, false, false, false, false, false, false, false, false, false, false, false, false, false, false, false, false, false, false, false, false, false, false, false, false, false, false, false, false, false, false, false, false, false, false, false, false, false, false] rfl rfl (by kernel_rfl) (fun _ _ _ h => h) (Or.inl ⟨by rfl, ?_⟩) ?_ ?_
  rotate_left
  · intro w'
    go_simp
    try with_reducible rfl
  rotate_left
  · simp only [Act.put, List.setIfInBounds_toArray, List.set_cons_zero, List.set_cons_succ, i64_w, i32_w]
    rfl
  refine take_ (i := 7) (N := some 49) (v := ?_) (a' := ?_) #[true, true, true, true, true, true, true, true, false, false, false, false, false, false, false, false, false, false, false, false, false, false, false, false, false, false, false, false, false, false, false, false, false, false, false, false, false, false, false, false, false, false, false, false, false, false, false, false, false, false, false, false, false, false, false, false, false] rfl rfl (by kernel_rfl) (fun _ _ _ h => h) (Or.inl ⟨by rfl, ?_⟩) hHeld ?_ ?_
  rotate_left
  · rintro w' hh
    have c0 : w'.cell? ⟨p5, 0, none⟩ = some (.string u.name) := blk_cell hh.k5 0
    have c1 : w'.cell? ⟨p5, 1, none⟩ = some (.int .i64 u.d0) := blk_cell hh.k5 1
    have c2 : w'.cell? ⟨p5, 2, none⟩ = some (.int .i64 u.d1) := blk_cell hh.k5 2
    have c3 : w'.cell? ⟨p5, 3, none⟩ = some (.int .i64 u.d2) := blk_cell hh.k5 3
    have c4 : w'.cell? ⟨p5, 4, none⟩ = some (.int .i64 u.d3) := blk_cell hh.k5 4
    have c5 : w'.cell? ⟨p5, 5, none⟩ = some (.int .i64 u.fn) := blk_cell hh.k5 5
    have c6 : w'.cell? ⟨p5, 6, none⟩ = some (.int .i64 u.fd) := blk_cell hh.k5 6
    have c7 : w'.cell? ⟨p5, 7, none⟩ = some (.int .i64 u.on) := blk_cell hh.k5 7
    have c8 : w'.cell? ⟨p5, 8, none⟩ = some (.int .i64 u.od) := blk_cell hh.k5 8
    have c9 : w'.cell? ⟨p5, 9, none⟩ = some (.int .i64 u.code) := blk_cell hh.k5 9
    have d0 : w'.cell? ⟨p7, 0, none⟩ = some (.string nm) := blk_cell hh.k7 0
    have d1 : w'.cell? ⟨p7, 1, none⟩ = some (.int .i64 u.d0) := blk_cell hh.k7 1
    have d2 : w'.cell? ⟨p7, 2, none⟩ = some (.int .i64 u.d1) := blk_cell hh.k7 2
    have d3 : w'.cell? ⟨p7, 3, none⟩ = some (.int .i64 u.d2) := blk_cell hh.k7 3
    have d4 : w'.cell? ⟨p7, 4, none⟩ = some (.int .i64 u.d3) := blk_cell hh.k7 4
    have d5 : w'.cell? ⟨p7, 5, none⟩ = some (.int .i64 u.fn) := blk_cell hh.k7 5
    have d6 : w'.cell? ⟨p7, 6, none⟩ = some (.int .i64 u.fd) := blk_cell hh.k7 6
    have d7 : w'.cell? ⟨p7, 7, none⟩ = some (.int .i64 u.on) := blk_cell hh.k7 7
    have d8 : w'.cell? ⟨p7, 8, none⟩ = some (.int .i64 u.od) := blk_cell hh.k7 8
    have d9 : w'.cell? ⟨p7, 9, none⟩ = some (.int .i64 u.code) := blk_cell hh.k7 9
    have f1 : w'.cell? ⟨p9, 1, none⟩ = some (.int .i64 v.d0) := blk_cell hh.k9 1
    have f2 : w'.cell? ⟨p9, 2, none⟩ = some (.int .i64 v.d1) := blk_cell hh.k9 2
    have f3 : w'.cell? ⟨p9, 3, none⟩ = some (.int .i64 v.d2) := blk_cell hh.k9 3
    have f4 : w'.cell? ⟨p9, 4, none⟩ = some (.int .i64 v.d3) := blk_cell hh.k9 4
    go_simp
    with_reducible rfl
  rotate_left
  · simp only [Act.put, List.setIfInBounds_toArray, List.set_cons_zero, List.set_cons_succ, i64_w, i32_w]
    rfl
  refine pure_ (i := 8) (N := some 50) (v := ?_) (a' := ?_) #[true, true, true, true, true, true, true, true, true, false, false, false, false, false, false, false, false, false, false, false, false, false, false, false, false, false, false, false, false, false, false, false, false, false, false, false, false, false, false, false, false, false, false, false, false, false, false, false, false, false, false, false, false, false, false, false, false] rfl rfl (by kernel_rfl) (fun _ _ _ h => h) (Or.inl ⟨by rfl, ?_⟩) ?_ ?_
  rotate_left
  · intro w'
    go_simp
    try with_reducible rfl
  rotate_left
  · simp only [Act.put, List.setIfInBounds_toArray, List.set_cons_zero, List.set_cons_succ, i64_w, i32_w]
    rfl
  refine pure_ (i := 9) (N := some 51) (v := ?_) (a' := ?_) #[true, true, true, true, true, true, true, true, true, true, false, false, false, false, false, false, false, false, false, false, false, false, false, false, false, false, false, false, false, false, false, false, false, false, false, false, false, false, false, false, false, false, false, false, false, false, false, false, false, false, false, false, false, false, false, false, false] rfl rfl (by kernel_rfl) (fun _ _ _ h => h) (Or.inl ⟨by rfl, ?_⟩) ?_ ?_
  rotate_left
  · intro w'
    go_simp
    try with_reducible rfl
  rotate_left
  · simp only [Act.put, List.setIfInBounds_toArray, List.set_cons_zero, List.set_cons_succ, i64_w, i32_w]
    rfl
  refine pure_ (i := 10) (N := some 52) (v := ?_) (a' := ?_) #[true, true, true, true, true, true, true, true, true, true, true, false, false, false, false, false, false, false, false, false, false, false, false, false, false, false, false, false, false, false, false, false, false, false, false, false, false, false, false, false, false, false, false, false, false, false, false, false, false, false, false, false, false, false, false, false, false] rfl rfl (by kernel_rfl) (fun _ _ _ h => h) (Or.inl ⟨by rfl, ?_⟩) ?_ ?_
  rotate_left
  · intro w'
    go_simp
    try with_reducible rfl
  rotate_left
  · simp only [Act.put, List.setIfInBounds_toArray, List.set_cons_zero, List.set_cons_succ, i64_w, i32_w]
    rfl
  refine pure_ (i := 11) (N := some 53) (v := ?_) (a' := ?_) #[true, true, true, true, true, true, true, true, true, true, true, true, false, false, false, false, false, false, false, false, false, false, false, false, false, false, false, false, false, false, false, false, false, false, false, false, false, false, false, false, false, false, false, false, false, false, false, false, false, false, false, false, false, false, false, false, false] rfl rfl (by kernel_rfl) (fun _ _ _ h => h) (Or.inl ⟨by rfl, ?_⟩) ?_ ?_
  rotate_left
  · intro w'
    go_simp
    try with_reducible rfl
  rotate_left
  · simp only [Act.put, List.setIfInBounds_toArray, List.set_cons_zero, List.set_cons_succ, i64_w, i32_w]
    rfl
  refine take_ (i := 12) (N := some 54) (v := ?_) (a' := ?_) #[true, true, true, true, true, true, true, true, true, true, true, true, true, false, false, false, false, false, false, false, false, false, false, false, false, false, false, false, false, false, false, false, false, false, false, false, false, false, false, false, false, false, false, false, false, false, false, false, false, false, false, false, false, false, false, false, false] rfl rfl (by kernel_rfl) (fun _ _ _ h => h) (Or.inl ⟨by rfl, ?_⟩) hHeld ?_ ?_
  rotate_left
  · rintro w' hh
    have c0 : w'.cell? ⟨p5, 0, none⟩ = some (.string u.name) := blk_cell hh.k5 0
    have c1 : w'.cell? ⟨p5, 1, none⟩ = some (.int .i64 u.d0) := blk_cell hh.k5 1
    have c2 : w'.cell? ⟨p5, 2, none⟩ = some (.int .i64 u.d1) := blk_cell hh.k5 2
    have c3 : w'.cell? ⟨p5, 3, none⟩ = some (.int .i64 u.d2) := blk_cell hh.k5 3
    have c4 : w'.cell? ⟨p5, 4, none⟩ = some (.int .i64 u.d3) := blk_cell hh.k5 4
    have c5 : w'.cell? ⟨p5, 5, none⟩ = some (.int .i64 u.fn) := blk_cell hh.k5 5
    have c6 : w'.cell? ⟨p5, 6, none⟩ = some (.int .i64 u.fd) := blk_cell hh.k5 6
    have c7 : w'.cell? ⟨p5, 7, none⟩ = some (.int .i64 u.on) := blk_cell hh.k5 7
    have c8 : w'.cell? ⟨p5, 8, none⟩ = some (.int .i64 u.od) := blk_cell hh.k5 8
    have c9 : w'.cell? ⟨p5, 9, none⟩ = some (.int .i64 u.code) := blk_cell hh.k5 9
    have d0 : w'.cell? ⟨p7, 0, none⟩ = some (.string nm) := blk_cell hh.k7 0
    have d1 : w'.cell? ⟨p7, 1, none⟩ = some (.int .i64 u.d0) := blk_cell hh.k7 1
    have d2 : w'.cell? ⟨p7, 2, none⟩ = some (.int .i64 u.d1) := blk_cell hh.k7 2
    have d3 : w'.cell? ⟨p7, 3, none⟩ = some (.int .i64 u.d2) := blk_cell hh.k7 3
    have d4 : w'.cell? ⟨p7, 4, none⟩ = some (.int .i64 u.d3) := blk_cell hh.k7 4
    have d5 : w'.cell? ⟨p7, 5, none⟩ = some (.int .i64 u.fn) := blk_cell hh.k7 5
    have d6 : w'.cell? ⟨p7, 6, none⟩ = some (.int .i64 u.fd) := blk_cell hh.k7 6
    have d7 : w'.cell? ⟨p7, 7, none⟩ = some (.int .i64 u.on) := blk_cell hh.k7 7
    have d8 : w'.cell? ⟨p7, 8, none⟩ = some (.int .i64 u.od) := blk_cell hh.k7 8
    have d9 : w'.cell? ⟨p7, 9, none⟩ = some (.int .i64 u.code) := blk_cell hh.k7 9
    have f1 : w'.cell? ⟨p9, 1, none⟩ = some (.int .i64 v.d0) := blk_cell hh.k9 1
    have f2 : w'.cell? ⟨p9, 2, none⟩ = some (.int .i64 v.d1) := blk_cell hh.k9 2
    have f3 : w'.cell? ⟨p9, 3, none⟩ = some (.int .i64 v.d2) := blk_cell hh.k9 3
    have f4 : w'.cell? ⟨p9, 4, none⟩ = some (.int .i64 v.d3) := blk_cell hh.k9 4
    go_simp
    with_reducible rfl
  rotate_left
  · simp only [Act.put, List.setIfInBounds_toArray, List.set_cons_zero, List.set_cons_succ, i64_w, i32_w]
    rfl
  refine pure_ (i := 13) (N := some 55) (v := ?_) (a' := ?_) #[true, true, true, true, true, true, true, true, true, true, true, true, true, true, false, false, false, false, false, false, false, false, false, false, false, false, false, false, false, false, false, false, false, false, false, false, false, false, false, false, false, false, false, false, false, false, false, false, false, false, false, false, false, false, false, false, false] rfl rfl (by kernel_rfl) (fun _ _ _ h => h) (Or.inl ⟨by rfl, ?_⟩) ?_ ?_
  rotate_left
  · intro w'
    go_simp
    try with_reducible rfl
  rotate_left
  · simp only [Act.put, List.setIfInBounds_toArray, List.set_cons_zero, List.set_cons_succ, i64_w, i32_w]
    rfl
  refine take_ (i := 14) (N := some 56) (v := ?_) (a' := ?_) #[true, true, true, true, true, true, true, true, true, true, true, true, true, true, true, false, false, false, false, false, false, false, false, false, false, false, false, false, false, false, false, false, false, false, false, false, false, false, false, false, false, false, false, false, false, false, false, false, false, false, false, false, false, false, false, false, false] rfl rfl (by kernel_rfl) (fun _ _ _ h => h) (Or.inl ⟨by rfl, ?_⟩) hHeld ?_ ?_
  rotate_left
  · rintro w' hh
    have c0 : w'.cell? ⟨p5, 0, none⟩ = some (.string u.name) := blk_cell hh.k5 0
    have c1 : w'.cell? ⟨p5, 1, none⟩ = some (.int .i64 u.d0) := blk_cell hh.k5 1
    have c2 : w'.cell? ⟨p5, 2, none⟩ = some (.int .i64 u.d1) := blk_cell hh.k5 2
    have c3 : w'.cell? ⟨p5, 3, none⟩ = some (.int .i64 u.d2) := blk_cell hh.k5 3
    have c4 : w'.cell? ⟨p5, 4, none⟩ = some (.int .i64 u.d3) := blk_cell hh.k5 4
    have c5 : w'.cell? ⟨p5, 5, none⟩ = some (.int .i64 u.fn) := blk_cell hh.k5 5
    have c6 : w'.cell? ⟨p5, 6, none⟩ = some (.int .i64 u.fd) := blk_cell hh.k5 6
    have c7 : w'.cell? ⟨p5, 7, none⟩ = some (.int .i64 u.on) := blk_cell hh.k5 7
    have c8 : w'.cell? ⟨p5, 8, none⟩ = some (.int .i64 u.od) := blk_cell hh.k5 8
    have c9 : w'.cell? ⟨p5, 9, none⟩ = some (.int .i64 u.code) := blk_cell hh.k5 9
    have d0 : w'.cell? ⟨p7, 0, none⟩ = some (.string nm) := blk_cell hh.k7 0
    have d1 : w'.cell? ⟨p7, 1, none⟩ = some (.int .i64 u.d0) := blk_cell hh.k7 1
    have d2 : w'.cell? ⟨p7, 2, none⟩ = some (.int .i64 u.d1) := blk_cell hh.k7 2
    have d3 : w'.cell? ⟨p7, 3, none⟩ = some (.int .i64 u.d2) := blk_cell hh.k7 3
    have d4 : w'.cell? ⟨p7, 4, none⟩ = some (.int .i64 u.d3) := blk_cell hh.k7 4
    have d5 : w'.cell? ⟨p7, 5, none⟩ = some (.int .i64 u.fn) := blk_cell hh.k7 5
    have d6 : w'.cell? ⟨p7, 6, none⟩ = some (.int .i64 u.fd) := blk_cell hh.k7 6
    have d7 : w'.cell? ⟨p7, 7, none⟩ = some (.int .i64 u.on) := blk_cell hh.k7 7
    have d8 : w'.cell? ⟨p7, 8, none⟩ = some (.int .i64 u.od) := blk_cell hh.k7 8
    have d9 : w'.cell? ⟨p7, 9, none⟩ = some (.int .i64 u.code) := blk_cell hh.k7 9
    have f1 : w'.cell? ⟨p9, 1, none⟩ = some (.int .i64 v.d0) := blk_cell hh.k9 1
    have f2 : w'.cell? ⟨p9, 2, none⟩ = some (.int .i64 v.d1) := blk_cell hh.k9 2
    have f3 : w'.cell? ⟨p9, 3, none⟩ = some (.int .i64 v.d2) := blk_cell hh.k9 3
    have f4 : w'.cell? ⟨p9, 4, none⟩ = some (.int .i64 v.d3) := blk_cell hh.k9 4
    go_simp
    with_reducible rfl
  rotate_left
  · simp only [Act.put, List.setIfInBounds_toArray, List.set_cons_zero, List.set_cons_succ, i64_w, i32_w]
    rfl
  refine pure_ (i := 15) (N := some 57) (v := ?_) (a' := ?_) #[true, true, true, true, true, true, true, true, true, true, true, true, true, true, true, true, false, false, false, false, false, false, false, false, false, false, false, false, false, false, false, false, false, false, false, false, false, false, false, false, false, false, false, false, false, false, false, false, false, false, false, false, false, false, false, false, false] rfl rfl (by kernel_rfl) (fun _ _ _ h => h) (Or.inl ⟨by rfl, ?_⟩) ?_ ?_
  rotate_left
  · intro w'
    go_simp
    try with_reducible rfl
  rotate_left
  · simp only [Act.put, List.setIfInBounds_toArray, List.set_cons_zero, List.set_cons_succ, i64_w, i32_w]
    rfl
  refine pure_ (i := 16) (N := some 58) (v := ?_) (a' := ?_) #[true, true, true, true, true, true, true, true, true, true, true, true, true, true, true, true, true, false, false, false, false, false, false, false, false, false, false, false, false, false, false, false, false, false, false, false, false, false, false, false, false, false, false, false, false, false, false, false, false, false, false, false, false, false, false, false, false] rfl rfl (by kernel_rfl) (fun _ _ _ h => h) (Or.inl ⟨by rfl, ?_⟩) ?_ ?_
  rotate_left
  · intro w'
    go_simp
    try with_reducible rfl
  rotate_left
  · simp only [Act.put, List.setIfInBounds_toArray, List.set_cons_zero, List.set_cons_succ, i64_w, i32_w]
    rfl
  refine pure_ (i := 17) (N := some 59) (v := ?_) (a' := ?_) #[true, true, true, true, true, true, true, true, true, true, true, true, true, true, true, true, true, true, false, false, false, false, false, false, false, false, false, false, false, false, false, false, false, false, false, false, false, false, false, false, false, false, false, false, false, false, false, false, false, false, false, false, false, false, false, false, false] rfl rfl (by kernel_rfl) (fun _ _ _ h => h) (Or.inl ⟨by rfl, ?_⟩) ?_ ?_
  rotate_left
  · intro w'
    go_simp
    try with_reducible rfl
  rotate_left
  · simp only [Act.put, List.setIfInBounds_toArray, List.set_cons_zero, List.set_cons_succ, i64_w, i32_w]
    rfl
  refine pure_ (i := 18) (N := some 60) (v := ?_) (a' := ?_) #[true, true, true, true, true, true, true, true, true, true, true, true, true, true, true, true, true, true, true, false, false, false, false, false, false, false, false, false, false, false, false, false, false, false, false, false, false, false, false, false, false, false, false, false, false, false, false, false, false, false, false, false, false, false, false, false, false] rfl rfl (by kernel_rfl) (fun _ _ _ h => h) (Or.inl ⟨by rfl, ?_⟩) ?_ ?_
  rotate_left
  · intro w'
    go_simp
    try with_reducible rfl
  rotate_left
  · simp only [Act.put, List.setIfInBounds_toArray, List.set_cons_zero, List.set_cons_succ, i64_w, i32_w]
    rfl
  refine take_ (i := 19) (N := some 61) (v := ?_) (a' := ?_) #[true, true, true, true, true, true, true, true, true, true, true, true, true, true, true, true, true, true, true, true, false, false, false, false, false, false, false, false, false, false, false, false, false, false, false, false, false, false, false, false, false, false, false, false, false, false, false, false, false, false, false, false, false, false, false, false, false] rfl rfl (by kernel_rfl) (fun _ _ _ h => h) (Or.inl ⟨by rfl, ?_⟩) hHeld ?_ ?_
  rotate_left
  · rintro w' hh
    have c0 : w'.cell? ⟨p5, 0, none⟩ = some (.string u.name) := blk_cell hh.k5 0
    have c1 : w'.cell? ⟨p5, 1, none⟩ = some (.int .i64 u.d0) := blk_cell hh.k5 1
    have c2 : w'.cell? ⟨p5, 2, none⟩ = some (.int .i64 u.d1) := blk_cell hh.k5 2
    have c3 : w'.cell? ⟨p5, 3, none⟩ = some (.int .i64 u.d2) := blk_cell hh.k5 3
    have c4 : w'.cell? ⟨p5, 4, none⟩ = some (.int .i64 u.d3) := blk_cell hh.k5 4
    have c5 : w'.cell? ⟨p5, 5, none⟩ = some (.int .i64 u.fn) := blk_cell hh.k5 5
    have c6 : w'.cell? ⟨p5, 6, none⟩ = some (.int .i64 u.fd) := blk_cell hh.k5 6
    have c7 : w'.cell? ⟨p5, 7, none⟩ = some (.int .i64 u.on) := blk_cell hh.k5 7
    have c8 : w'.cell? ⟨p5, 8, none⟩ = some (.int .i64 u.od) := blk_cell hh.k5 8
    have c9 : w'.cell? ⟨p5, 9, none⟩ = some (.int .i64 u.code) := blk_cell hh.k5 9
    have d0 : w'.cell? ⟨p7, 0, none⟩ = some (.string nm) := blk_cell hh.k7 0
    have d1 : w'.cell? ⟨p7, 1, none⟩ = some (.int .i64 u.d0) := blk_cell hh.k7 1
    have d2 : w'.cell? ⟨p7, 2, none⟩ = some (.int .i64 u.d1) := blk_cell hh.k7 2
    have d3 : w'.cell? ⟨p7, 3, none⟩ = some (.int .i64 u.d2) := blk_cell hh.k7 3
    have d4 : w'.cell? ⟨p7, 4, none⟩ = some (.int .i64 u.d3) := blk_cell hh.k7 4
    have d5 : w'.cell? ⟨p7, 5, none⟩ = some (.int .i64 u.fn) := blk_cell hh.k7 5
    have d6 : w'.cell? ⟨p7, 6, none⟩ = some (.int .i64 u.fd) := blk_cell hh.k7 6
    have d7 : w'.cell? ⟨p7, 7, none⟩ = some (.int .i64 u.on) := blk_cell hh.k7 7
    have d8 : w'.cell? ⟨p7, 8, none⟩ = some (.int .i64 u.od) := blk_cell hh.k7 8
    have d9 : w'.cell? ⟨p7, 9, none⟩ = some (.int .i64 u.code) := blk_cell hh.k7 9
    have f1 : w'.cell? ⟨p9, 1, none⟩ = some (.int .i64 v.d0) := blk_cell hh.k9 1
    have f2 : w'.cell? ⟨p9, 2, none⟩ = some (.int .i64 v.d1) := blk_cell hh.k9 2
    have f3 : w'.cell? ⟨p9, 3, none⟩ = some (.int .i64 v.d2) := blk_cell hh.k9 3
    have f4 : w'.cell? ⟨p9, 4, none⟩ = some (.int .i64 v.d3) := blk_cell hh.k9 4
    go_simp
    with_reducible rfl
  rotate_left
  · simp only [Act.put, List.setIfInBounds_toArray, List.set_cons_zero, List.set_cons_succ, i64_w, i32_w]
    rfl
  refine pure_ (i := 21) (N := some 63) (v := ?_) (a' := ?_) #[true, true, true, true, true, true, true, true, true, true, true, true, true, true, true, true, true, true, true, true, false, true, false, false, false, false, false, false, false, false, false, false, false, false, false, false, false, false, false, false, false, false, false, false, false, false, false, false, false, false, false, false, false, false, false, false, false] rfl rfl (by kernel_rfl) (fun _ _ _ h => h) (Or.inl ⟨by rfl, ?_⟩) ?_ ?_
  rotate_left
  · intro w'
    go_simp
    try with_reducible rfl
  rotate_left
  · simp only [Act.put, List.setIfInBounds_toArray, List.set_cons_zero, List.set_cons_succ, i64_w, i32_w]
    rfl
  refine take_ (i := 22) (N := some 64) (v := ?_) (a' := ?_) #[true, true, true, true, true, true, true, true, true, true, true, true, true, true, true, true, true, true, true, true, false, true, true, false, false, false, false, false, false, false, false, false, false, false, false, false, false, false, false, false, false, false, false, false, false, false, false, false, false, false, false, false, false, false, false, false, false] rfl rfl (by kernel_rfl) (fun _ _ _ h => h) (Or.inl ⟨by rfl, ?_⟩) hHeld ?_ ?_
  rotate_left
  · rintro w' hh
    have c0 : w'.cell? ⟨p5, 0, none⟩ = some (.string u.name) := blk_cell hh.k5 0
    have c1 : w'.cell? ⟨p5, 1, none⟩ = some (.int .i64 u.d0) := blk_cell hh.k5 1
    have c2 : w'.cell? ⟨p5, 2, none⟩ = some (.int .i64 u.d1) := blk_cell hh.k5 2
    have c3 : w'.cell? ⟨p5, 3, none⟩ = some (.int .i64 u.d2) := blk_cell hh.k5 3
    have c4 : w'.cell? ⟨p5, 4, none⟩ = some (.int .i64 u.d3) := blk_cell hh.k5 4
    have c5 : w'.cell? ⟨p5, 5, none⟩ = some (.int .i64 u.fn) := blk_cell hh.k5 5
    have c6 : w'.cell? ⟨p5, 6, none⟩ = some (.int .i64 u.fd) := blk_cell hh.k5 6
    have c7 : w'.cell? ⟨p5, 7, none⟩ = some (.int .i64 u.on) := blk_cell hh.k5 7
    have c8 : w'.cell? ⟨p5, 8, none⟩ = some (.int .i64 u.od) := blk_cell hh.k5 8
    have c9 : w'.cell? ⟨p5, 9, none⟩ = some (.int .i64 u.code) := blk_cell hh.k5 9
    have d0 : w'.cell? ⟨p7, 0, none⟩ = some (.string nm) := blk_cell hh.k7 0
    have d1 : w'.cell? ⟨p7, 1, none⟩ = some (.int .i64 u.d0) := blk_cell hh.k7 1
    have d2 : w'.cell? ⟨p7, 2, none⟩ = some (.int .i64 u.d1) := blk_cell hh.k7 2
    have d3 : w'.cell? ⟨p7, 3, none⟩ = some (.int .i64 u.d2) := blk_cell hh.k7 3
    have d4 : w'.cell? ⟨p7, 4, none⟩ = some (.int .i64 u.d3) := blk_cell hh.k7 4
    have d5 : w'.cell? ⟨p7, 5, none⟩ = some (.int .i64 u.fn) := blk_cell hh.k7 5
    have d6 : w'.cell? ⟨p7, 6, none⟩ = some (.int .i64 u.fd) := blk_cell hh.k7 6
    have d7 : w'.cell? ⟨p7, 7, none⟩ = some (.int .i64 u.on) := blk_cell hh.k7 7
    have d8 : w'.cell? ⟨p7, 8, none⟩ = some (.int .i64 u.od) := blk_cell hh.k7 8
    have d9 : w'.cell? ⟨p7, 9, none⟩ = some (.int .i64 u.code) := blk_cell hh.k7 9
    have f1 : w'.cell? ⟨p9, 1, none⟩ = some (.int .i64 v.d0) := blk_cell hh.k9 1
    have f2 : w'.cell? ⟨p9, 2, none⟩ = some (.int .i64 v.d1) := blk_cell hh.k9 2
    have f3 : w'.cell? ⟨p9, 3, none⟩ = some (.int .i64 v.d2) := blk_cell hh.k9 3
    have f4 : w'.cell? ⟨p9, 4, none⟩ = some (.int .i64 v.d3) := blk_cell hh.k9 4
    go_simp
    with_reducible rfl
  rotate_left
  · simp only [Act.put, List.setIfInBounds_toArray, List.set_cons_zero, List.set_cons_succ, i64_w, i32_w]
    rfl
  refine one_ (i := 20) (N := some 62) #[true, true, true, true, true, true, true, true, true, true, true, true, true, true, true, true, true, true, true, true, true, true, true, false, false, false, false, false, false, false, false, false, false, false, false, false, false, false, false, false, false, false, false, false, false, false, false, false, false, false, false, false, false, false, false, false, false] rfl rfl (by kernel_rfl) (by decide) (fun K hK => ?_)
  refine goes_ Try.func32 (by kernel_rfl) rfl #[.agg #[.int .i64 u.fn, .int .i64 u.fd]] (by rfl) rfl rfl (by (try simp only [List.map_toArray, List.map_cons, List.map_nil]); first | done | rfl) ?_
  refine (plain_calls u.fn u.fd _).mono ?_
  rintro e wz ⟨rfl, hb_⟩
  refine ⟨_, rfl, ?_⟩
  refine hK.out _ _ (hHeld.step hb_) (fun hHeld => ?_)
  clear hK K
  refine norm_ (a' := ?_) ?_ ?_
  rotate_left
  · show Act.put _ (some 62) _ = _
    simp only [Act.put, List.setIfInBounds_toArray, List.set_cons_zero, List.set_cons_succ, i64_w, i32_w]
    rfl
  refine pure_ (i := 23) (N := some 65) (v := ?_) (a' := ?_) #[true, true, true, true, true, true, true, true, true, true, true, true, true, true, true, true, true, true, true, true, true, true, true, true, false, false, false, false, false, false, false, false, false, false, false, false, false, false, false, false, false, false, false, false, false, false, false, false, false, false, false, false, false, false, false, false, false] rfl rfl (by kernel_rfl) (fun _ _ _ h => h) (Or.inl ⟨by rfl, ?_⟩) ?_ ?_
  rotate_left
  · intro w'
    go_simp
    try with_reducible rfl
  rotate_left
  · simp only [Act.put, List.setIfInBounds_toArray, List.set_cons_zero, List.set_cons_succ, i64_w, i32_w]
    rfl
  refine pure_ (i := 24) (N := some 66) (v := ?_) (a' := ?_) #[true, true, true, true, true, true, true, true, true, true, true, true, true, true, true, true, true, true, true, true, true, true, true, true, true, false, false, false, false, false, false, false, false, false, false, false, false, false, false, false, false, false, false, false, false, false, false, false, false, false, false, false, false, false, false, false, false] rfl rfl (by kernel_rfl) (fun _ _ _ h => h) (Or.inl ⟨by rfl, ?_⟩) ?_ ?_
  rotate_left
  · intro w'
    go_simp
    try with_reducible rfl
  rotate_left
  · simp only [Act.put, List.setIfInBounds_toArray, List.set_cons_zero, List.set_cons_succ, i64_w, i32_w]
    rfl
  refine pure_ (i := 25) (N := some 67) (v := ?_) (a' := ?_) #[true, true, true, true, true, true, true, true, true, true, true, true, true, true, true, true, true, true, true, true, true, true, true, true, true, true, false, false, false, false, false, false, false, false, false, false, false, false, false, false, false, false, false, false, false, false, false, false, false, false, false, false, false, false, false, false, false] rfl rfl (by kernel_rfl) (fun _ _ _ h => h) (Or.inl ⟨by rfl, ?_⟩) ?_ ?_
  rotate_left
  · intro w'
    go_simp
    try with_reducible rfl
  rotate_left
  · simp only [Act.put, List.setIfInBounds_toArray, List.set_cons_zero, List.set_cons_succ, i64_w, i32_w]
    rfl
  refine pure_ (i := 26) (N := some 68) (v := ?_) (a' := ?_) #[true, true, true, true, true, true, true, true, true, true, true, true, true, true, true, true, true, true, true, true, true, true, true, true, true, true, true, false, false, false, false, false, false, false, false, false, false, false, false, false, false, false, false, false, false, false, false, false, false, false, false, false, false, false, false, false, false] rfl rfl (by kernel_rfl) (fun _ _ _ h => h) (Or.inl ⟨by rfl, ?_⟩) ?_ ?_
  rotate_left
  · intro w'
    go_simp
    try with_reducible rfl
  rotate_left
  · simp only [Act.put, List.setIfInBounds_toArray, List.set_cons_zero, List.set_cons_succ, i64_w, i32_w]
    rfl
  refine take_ (i := 27) (N := some 69) (v := ?_) (a' := ?_) #[true, true, true, true, true, true, true, true, true, true, true, true, true, true, true, true, true, true, true, true, true, true, true, true, true, true, true, true, false, false, false, false, false, false, false, false, false, false, false, false, false, false, false, false, false, false, false, false, false, false, false, false, false, false, false, false, false] rfl rfl (by kernel_rfl) (fun _ _ _ h => h) (Or.inl ⟨by rfl, ?_⟩) hHeld ?_ ?_
  rotate_left
  · rintro w' hh
    have c0 : w'.cell? ⟨p5, 0, none⟩ = some (.string u.name) := blk_cell hh.k5 0
    have c1 : w'.cell? ⟨p5, 1, none⟩ = some (.int .i64 u.d0) := blk_cell hh.k5 1
    have c2 : w'.cell? ⟨p5, 2, none⟩ = some (.int .i64 u.d1) := blk_cell hh.k5 2
    have c3 : w'.cell? ⟨p5, 3, none⟩ = some (.int .i64 u.d2) := blk_cell hh.k5 3
    have c4 : w'.cell? ⟨p5, 4, none⟩ = some (.int .i64 u.d3) := blk_cell hh.k5 4
    have c5 : w'.cell? ⟨p5, 5, none⟩ = some (.int .i64 u.fn) := blk_cell hh.k5 5
    have c6 : w'.cell? ⟨p5, 6, none⟩ = some (.int .i64 u.fd) := blk_cell hh.k5 6
    have c7 : w'.cell? ⟨p5, 7, none⟩ = some (.int .i64 u.on) := blk_cell hh.k5 7
    have c8 : w'.cell? ⟨p5, 8, none⟩ = some (.int .i64 u.od) := blk_cell hh.k5 8
    have c9 : w'.cell? ⟨p5, 9, none⟩ = some (.int .i64 u.code) := blk_cell hh.k5 9
    have d0 : w'.cell? ⟨p7, 0, none⟩ = some (.string nm) := blk_cell hh.k7 0
    have d1 : w'.cell? ⟨p7, 1, none⟩ = some (.int .i64 u.d0) := blk_cell hh.k7 1
    have d2 : w'.cell? ⟨p7, 2, none⟩ = some (.int .i64 u.d1) := blk_cell hh.k7 2
    have d3 : w'.cell? ⟨p7, 3, none⟩ = some (.int .i64 u.d2) := blk_cell hh.k7 3
    have d4 : w'.cell? ⟨p7, 4, none⟩ = some (.int .i64 u.d3) := blk_cell hh.k7 4
    have d5 : w'.cell? ⟨p7, 5, none⟩ = some (.int .i64 u.fn) := blk_cell hh.k7 5
    have d6 : w'.cell? ⟨p7, 6, none⟩ = some (.int .i64 u.fd) := blk_cell hh.k7 6
    have d7 : w'.cell? ⟨p7, 7, none⟩ = some (.int .i64 u.on) := blk_cell hh.k7 7
    have d8 : w'.cell? ⟨p7, 8, none⟩ = some (.int .i64 u.od) := blk_cell hh.k7 8
    have d9 : w'.cell? ⟨p7, 9, none⟩ = some (.int .i64 u.code) := blk_cell hh.k7 9
    have f1 : w'.cell? ⟨p9, 1, none⟩ = some (.int .i64 v.d0) := blk_cell hh.k9 1
    have f2 : w'.cell? ⟨p9, 2, none⟩ = some (.int .i64 v.d1) := blk_cell hh.k9 2
    have f3 : w'.cell? ⟨p9, 3, none⟩ = some (.int .i64 v.d2) := blk_cell hh.k9 3
    have f4 : w'.cell? ⟨p9, 4, none⟩ = some (.int .i64 v.d3) := blk_cell hh.k9 4
    go_simp
    with_reducible rfl
  rotate_left
  · simp only [Act.put, List.setIfInBounds_toArray, List.set_cons_zero, List.set_cons_succ, i64_w, i32_w]
    rfl
  refine pure_ (i := 29) (N := some 71) (v := ?_) (a' := ?_) #[true, true, true, true, true, true, true, true, true, true, true, true, true, true, true, true, true, true, true, true, true, true, true, true, true, true, true, true, false, true, false, false, false, false, false, false, false, false, false, false, false, false, false, false, false, false, false, false, false, false, false, false, false, false, false, false, false] rfl rfl (by kernel_rfl) (fun _ _ _ h => h) (Or.inl ⟨by rfl, ?_⟩) ?_ ?_
  rotate_left
  · intro w'
    go_simp
    try with_reducible rfl
  rotate_left
  · simp only [Act.put, List.setIfInBounds_toArray, List.set_cons_zero, List.set_cons_succ, i64_w, i32_w]
    rfl
  refine take_ (i := 30) (N := some 72) (v := ?_) (a' := ?_) #[true, true, true, true, true, true, true, true, true, true, true, true, true, true, true, true, true, true, true, true, true, true, true, true, true, true, true, true, false, true, true, false, false, false, false, false, false, false, false, false, false, false, false, false, false, false, false, false, false, false, false, false, false, false, false, false, false] rfl rfl (by kernel_rfl) (fun _ _ _ h => h) (Or.inl ⟨by rfl, ?_⟩) hHeld ?_ ?_
  rotate_left
  · rintro w' hh
    have c0 : w'.cell? ⟨p5, 0, none⟩ = some (.string u.name) := blk_cell hh.k5 0
    have c1 : w'.cell? ⟨p5, 1, none⟩ = some (.int .i64 u.d0) := blk_cell hh.k5 1
    have c2 : w'.cell? ⟨p5, 2, none⟩ = some (.int .i64 u.d1) := blk_cell hh.k5 2
    have c3 : w'.cell? ⟨p5, 3, none⟩ = some (.int .i64 u.d2) := blk_cell hh.k5 3
    have c4 : w'.cell? ⟨p5, 4, none⟩ = some (.int .i64 u.d3) := blk_cell hh.k5 4
    have c5 : w'.cell? ⟨p5, 5, none⟩ = some (.int .i64 u.fn) := blk_cell hh.k5 5
    have c6 : w'.cell? ⟨p5, 6, none⟩ = some (.int .i64 u.fd) := blk_cell hh.k5 6
    have c7 : w'.cell? ⟨p5, 7, none⟩ = some (.int .i64 u.on) := blk_cell hh.k5 7
    have c8 : w'.cell? ⟨p5, 8, none⟩ = some (.int .i64 u.od) := blk_cell hh.k5 8
    have c9 : w'.cell? ⟨p5, 9, none⟩ = some (.int .i64 u.code) := blk_cell hh.k5 9
    have d0 : w'.cell? ⟨p7, 0, none⟩ = some (.string nm) := blk_cell hh.k7 0
    have d1 : w'.cell? ⟨p7, 1, none⟩ = some (.int .i64 u.d0) := blk_cell hh.k7 1
    have d2 : w'.cell? ⟨p7, 2, none⟩ = some (.int .i64 u.d1) := blk_cell hh.k7 2
    have d3 : w'.cell? ⟨p7, 3, none⟩ = some (.int .i64 u.d2) := blk_cell hh.k7 3
    have d4 : w'.cell? ⟨p7, 4, none⟩ = some (.int .i64 u.d3) := blk_cell hh.k7 4
    have d5 : w'.cell? ⟨p7, 5, none⟩ = some (.int .i64 u.fn) := blk_cell hh.k7 5
    have d6 : w'.cell? ⟨p7, 6, none⟩ = some (.int .i64 u.fd) := blk_cell hh.k7 6
    have d7 : w'.cell? ⟨p7, 7, none⟩ = some (.int .i64 u.on) := blk_cell hh.k7 7
    have d8 : w'.cell? ⟨p7, 8, none⟩ = some (.int .i64 u.od) := blk_cell hh.k7 8
    have d9 : w'.cell? ⟨p7, 9, none⟩ = some (.int .i64 u.code) := blk_cell hh.k7 9
    have f1 : w'.cell? ⟨p9, 1, none⟩ = some (.int .i64 v.d0) := blk_cell hh.k9 1
    have f2 : w'.cell? ⟨p9, 2, none⟩ = some (.int .i64 v.d1) := blk_cell hh.k9 2
    have f3 : w'.cell? ⟨p9, 3, none⟩ = some (.int .i64 v.d2) := blk_cell hh.k9 3
    have f4 : w'.cell? ⟨p9, 4, none⟩ = some (.int .i64 v.d3) := blk_cell hh.k9 4
    go_simp
    with_reducible rfl
  rotate_left
  · simp only [Act.put, List.setIfInBounds_toArray, List.set_cons_zero, List.set_cons_succ, i64_w, i32_w]
    rfl
  refine one_ (i := 28) (N := some 70) #[true, true, true, true, true, true, true, true, true, true, true, true, true, true, true, true, true, true, true, true, true, true, true, true, true, true, true, true, true, true, true, false, false, false, false, false, false, false, false, false, false, false, false, false, false, false, false, false, false, false, false, false, false, false, false, false, false] rfl rfl (by kernel_rfl) (by decide) (fun K hK => ?_)
  refine goes_ Try.func32 (by kernel_rfl) rfl #[.agg #[.int .i64 u.on, .int .i64 u.od]] (by rfl) rfl rfl (by (try simp only [List.map_toArray, List.map_cons, List.map_nil]); first | done | rfl) ?_
  refine (plain_calls u.on u.od _).mono ?_
  rintro e wz ⟨rfl, hb_⟩
  refine ⟨_, rfl, ?_⟩
  refine hK.out _ _ (hHeld.step hb_) (fun hHeld => ?_)
  clear hK K
  refine norm_ (a' := ?_) ?_ ?_
  rotate_left
  · show Act.put _ (some 70) _ = _
    simp only [Act.put, List.setIfInBounds_toArray, List.set_cons_zero, List.set_cons_succ, i64_w, i32_w]
    rfl
  refine pure_ (i := 31) (N := some 73) (v := ?_) (a' := ?_) #[true, true, true, true, true, true, true, true, true, true, true, true, true, true, true, true, true, true, true, true, true, true, true, true, true, true, true, true, true, true, true, true, false, false, false, false, false, false, false, false, false, false, false, false, false, false, false, false, false, false, false, false, false, false, false, false, false] rfl rfl (by kernel_rfl) (fun _ _ _ h => h) (Or.inl ⟨by rfl, ?_⟩) ?_ ?_
  rotate_left
  · intro w'
    go_simp
    try with_reducible rfl
  rotate_left
  · simp only [Act.put, List.setIfInBounds_toArray, List.set_cons_zero, List.set_cons_succ, i64_w, i32_w]
    rfl
  refine pure_ (i := 32) (N := some 74) (v := ?_) (a' := ?_) #[true, true, true, true, true, true, true, true, true, true, true, true, true, true, true, true, true, true, true, true, true, true, true, true, true, true, true, true, true, true, true, true, true, false, false, false, false, false, false, false, false, false, false, false, false, false, false, false, false, false, false, false, false, false, false, false, false] rfl rfl (by kernel_rfl) (fun _ _ _ h => h) (Or.inl ⟨by rfl, ?_⟩) ?_ ?_
  rotate_left
  · intro w'
    go_simp
    try with_reducible rfl
  rotate_left
  · simp only [Act.put, List.setIfInBounds_toArray, List.set_cons_zero, List.set_cons_succ, i64_w, i32_w]
    rfl
  refine pure_ (i := 33) (N := some 75) (v := ?_) (a' := ?_) #[true, true, true, true, true, true, true, true, true, true, true, true, true, true, true, true, true, true, true, true, true, true, true, true, true, true, true, true, true, true, true, true, true, true, false, false, false, false, false, false, false, false, false, false, false, false, false, false, false, false, false, false, false, false, false, false, false] rfl rfl (by kernel_rfl) (fun _ _ _ h => h) (Or.inl ⟨by rfl, ?_⟩) ?_ ?_
  rotate_left
  · intro w'
    go_simp
    try with_reducible rfl
  rotate_left
  · simp only [Act.put, List.setIfInBounds_toArray, List.set_cons_zero, List.set_cons_succ, i64_w, i32_w]
    rfl
  refine pure_ (i := 34) (N := some 76) (v := ?_) (a' := ?_) #[true, true, true, true, true, true, true, true, true, true, true, true, true, true, true, true, true, true, true, true, true, true, true, true, true, true, true, true, true, true, true, true, true, true, true, false, false, false, false, false, false, false, false, false, false, false, false, false, false, false, false, false, false, false, false, false, false] rfl rfl (by kernel_rfl) (fun _ _ _ h => h) (Or.inl ⟨by rfl, ?_⟩) ?_ ?_
  rotate_left
  · intro w'
    go_simp
    try with_reducible rfl
  rotate_left
  · simp only [Act.put, List.setIfInBounds_toArray, List.set_cons_zero, List.set_cons_succ, i64_w, i32_w]
    rfl
  refine take_ (i := 35) (N := some 77) (v := ?_) (a' := ?_) #[true, true, true, true, true, true, true, true, true, true, true, true, true, true, true, true, true, true, true, true, true, true, true, true, true, true, true, true, true, true, true, true, true, true, true, true, false, false, false, false, false, false, false, false, false, false, false, false, false, false, false, false, false, false, false, false, false] rfl rfl (by kernel_rfl) (fun _ _ _ h => h) (Or.inl ⟨by rfl, ?_⟩) hHeld ?_ ?_
  rotate_left
  · rintro w' hh
    have c0 : w'.cell? ⟨p5, 0, none⟩ = some (.string u.name) := blk_cell hh.k5 0
    have c1 : w'.cell? ⟨p5, 1, none⟩ = some (.int .i64 u.d0) := blk_cell hh.k5 1
    have c2 : w'.cell? ⟨p5, 2, none⟩ = some (.int .i64 u.d1) := blk_cell hh.k5 2
    have c3 : w'.cell? ⟨p5, 3, none⟩ = some (.int .i64 u.d2) := blk_cell hh.k5 3
    have c4 : w'.cell? ⟨p5, 4, none⟩ = some (.int .i64 u.d3) := blk_cell hh.k5 4
    have c5 : w'.cell? ⟨p5, 5, none⟩ = some (.int .i64 u.fn) := blk_cell hh.k5 5
    have c6 : w'.cell? ⟨p5, 6, none⟩ = some (.int .i64 u.fd) := blk_cell hh.k5 6
    have c7 : w'.cell? ⟨p5, 7, none⟩ = some (.int .i64 u.on) := blk_cell hh.k5 7
    have c8 : w'.cell? ⟨p5, 8, none⟩ = some (.int .i64 u.od) := blk_cell hh.k5 8
    have c9 : w'.cell? ⟨p5, 9, none⟩ = some (.int .i64 u.code) := blk_cell hh.k5 9
    have d0 : w'.cell? ⟨p7, 0, none⟩ = some (.string nm) := blk_cell hh.k7 0
    have d1 : w'.cell? ⟨p7, 1, none⟩ = some (.int .i64 u.d0) := blk_cell hh.k7 1
    have d2 : w'.cell? ⟨p7, 2, none⟩ = some (.int .i64 u.d1) := blk_cell hh.k7 2
    have d3 : w'.cell? ⟨p7, 3, none⟩ = some (.int .i64 u.d2) := blk_cell hh.k7 3
    have d4 : w'.cell? ⟨p7, 4, none⟩ = some (.int .i64 u.d3) := blk_cell hh.k7 4
    have d5 : w'.cell? ⟨p7, 5, none⟩ = some (.int .i64 u.fn) := blk_cell hh.k7 5
    have d6 : w'.cell? ⟨p7, 6, none⟩ = some (.int .i64 u.fd) := blk_cell hh.k7 6
    have d7 : w'.cell? ⟨p7, 7, none⟩ = some (.int .i64 u.on) := blk_cell hh.k7 7
    have d8 : w'.cell? ⟨p7, 8, none⟩ = some (.int .i64 u.od) := blk_cell hh.k7 8
    have d9 : w'.cell? ⟨p7, 9, none⟩ = some (.int .i64 u.code) := blk_cell hh.k7 9
    have f1 : w'.cell? ⟨p9, 1, none⟩ = some (.int .i64 v.d0) := blk_cell hh.k9 1
    have f2 : w'.cell? ⟨p9, 2, none⟩ = some (.int .i64 v.d1) := blk_cell hh.k9 2
    have f3 : w'.cell? ⟨p9, 3, none⟩ = some (.int .i64 v.d2) := blk_cell hh.k9 3
    have f4 : w'.cell? ⟨p9, 4, none⟩ = some (.int .i64 v.d3) := blk_cell hh.k9 4
    go_simp
    with_reducible rfl
  rotate_left
  · simp only [Act.put, List.setIfInBounds_toArray, List.set_cons_zero, List.set_cons_succ, i64_w, i32_w]
    rfl
  refine pure_ (i := 36) (N := some 78) (v := ?_) (a' := ?_) #[true, true, true, true, true, true, true, true, true, true, true, true, true, true, true, true, true, true, true, true, true, true, true, true, true, true, true, true, true, true, true, true, true, true, true, true, true, false, false, false, false, false, false, false, false, false, false, false, false, false, false, false, false, false, false, false, false] rfl rfl (by kernel_rfl) (fun _ _ _ h => h) (Or.inl ⟨by rfl, ?_⟩) ?_ ?_
  rotate_left
  · intro w'
    go_simp
    try with_reducible rfl
  rotate_left
  · simp only [Act.put, List.setIfInBounds_toArray, List.set_cons_zero, List.set_cons_succ, i64_w, i32_w]
    rfl
  refine take_ (i := 37) (N := some 79) (v := ?_) (a' := ?_) #[true, true, true, true, true, true, true, true, true, true, true, true, true, true, true, true, true, true, true, true, true, true, true, true, true, true, true, true, true, true, true, true, true, true, true, true, true, true, false, false, false, false, false, false, false, false, false, false, false, false, false, false, false, false, false, false, false] rfl rfl (by kernel_rfl) (fun _ _ _ h => h) (Or.inl ⟨by rfl, ?_⟩) hHeld ?_ ?_
  rotate_left
  · rintro w' hh
    have c0 : w'.cell? ⟨p5, 0, none⟩ = some (.string u.name) := blk_cell hh.k5 0
    have c1 : w'.cell? ⟨p5, 1, none⟩ = some (.int .i64 u.d0) := blk_cell hh.k5 1
    have c2 : w'.cell? ⟨p5, 2, none⟩ = some (.int .i64 u.d1) := blk_cell hh.k5 2
    have c3 : w'.cell? ⟨p5, 3, none⟩ = some (.int .i64 u.d2) := blk_cell hh.k5 3
    have c4 : w'.cell? ⟨p5, 4, none⟩ = some (.int .i64 u.d3) := blk_cell hh.k5 4
    have c5 : w'.cell? ⟨p5, 5, none⟩ = some (.int .i64 u.fn) := blk_cell hh.k5 5
    have c6 : w'.cell? ⟨p5, 6, none⟩ = some (.int .i64 u.fd) := blk_cell hh.k5 6
    have c7 : w'.cell? ⟨p5, 7, none⟩ = some (.int .i64 u.on) := blk_cell hh.k5 7
    have c8 : w'.cell? ⟨p5, 8, none⟩ = some (.int .i64 u.od) := blk_cell hh.k5 8
    have c9 : w'.cell? ⟨p5, 9, none⟩ = some (.int .i64 u.code) := blk_cell hh.k5 9
    have d0 : w'.cell? ⟨p7, 0, none⟩ = some (.string nm) := blk_cell hh.k7 0
    have d1 : w'.cell? ⟨p7, 1, none⟩ = some (.int .i64 u.d0) := blk_cell hh.k7 1
    have d2 : w'.cell? ⟨p7, 2, none⟩ = some (.int .i64 u.d1) := blk_cell hh.k7 2
    have d3 : w'.cell? ⟨p7, 3, none⟩ = some (.int .i64 u.d2) := blk_cell hh.k7 3
    have d4 : w'.cell? ⟨p7, 4, none⟩ = some (.int .i64 u.d3) := blk_cell hh.k7 4
    have d5 : w'.cell? ⟨p7, 5, none⟩ = some (.int .i64 u.fn) := blk_cell hh.k7 5
    have d6 : w'.cell? ⟨p7, 6, none⟩ = some (.int .i64 u.fd) := blk_cell hh.k7 6
    have d7 : w'.cell? ⟨p7, 7, none⟩ = some (.int .i64 u.on) := blk_cell hh.k7 7
    have d8 : w'.cell? ⟨p7, 8, none⟩ = some (.int .i64 u.od) := blk_cell hh.k7 8
    have d9 : w'.cell? ⟨p7, 9, none⟩ = some (.int .i64 u.code) := blk_cell hh.k7 9
    have f1 : w'.cell? ⟨p9, 1, none⟩ = some (.int .i64 v.d0) := blk_cell hh.k9 1
    have f2 : w'.cell? ⟨p9, 2, none⟩ = some (.int .i64 v.d1) := blk_cell hh.k9 2
    have f3 : w'.cell? ⟨p9, 3, none⟩ = some (.int .i64 v.d2) := blk_cell hh.k9 3
    have f4 : w'.cell? ⟨p9, 4, none⟩ = some (.int .i64 v.d3) := blk_cell hh.k9 4
    go_simp
    with_reducible rfl
  rotate_left
  · simp only [Act.put, List.setIfInBounds_toArray, List.set_cons_zero, List.set_cons_succ, i64_w, i32_w]
    rfl
  refine pure_ (i := 38) (N := some 80) (v := ?_) (a' := ?_) #[true, true, true, true, true, true, true, true, true, true, true, true, true, true, true, true, true, true, true, true, true, true, true, true, true, true, true, true, true, true, true, true, true, true, true, true, true, true, true, false, false, false, false, false, false, false, false, false, false, false, false, false, false, false, false, false, false] rfl rfl (by kernel_rfl) (fun _ _ _ h => h) (Or.inl ⟨by rfl, ?_⟩) ?_ ?_
  rotate_left
  · intro w'
    go_simp
    try with_reducible rfl
  rotate_left
  · simp only [Act.put, List.setIfInBounds_toArray, List.set_cons_zero, List.set_cons_succ, i64_w, i32_w]
    rfl
  refine pure_ (i := 39) (N := some 81) (v := ?_) (a' := ?_) #[true, true, true, true, true, true, true, true, true, true, true, true, true, true, true, true, true, true, true, true, true, true, true, true, true, true, true, true, true, true, true, true, true, true, true, true, true, true, true, true, false, false, false, false, false, false, false, false, false, false, false, false, false, false, false, false, false] rfl rfl (by kernel_rfl) (fun _ _ _ h => h) (Or.inl ⟨by rfl, ?_⟩) ?_ ?_
  rotate_left
  · intro w'
    go_simp
    try with_reducible rfl
  rotate_left
  · simp only [Act.put, List.setIfInBounds_toArray, List.set_cons_zero, List.set_cons_succ, i64_w, i32_w]
    rfl
  refine pure_ (i := 40) (N := some 82) (v := ?_) (a' := ?_) #[true, true, true, true, true, true, true, true, true, true, true, true, true, true, true, true, true, true, true, true, true, true, true, true, true, true, true, true, true, true, true, true, true, true, true, true, true, true, true, true, true, false, false, false, false, false, false, false, false, false, false, false, false, false, false, false, false] rfl rfl (by kernel_rfl) (fun _ _ _ h => h) (Or.inl ⟨by rfl, ?_⟩) ?_ ?_
  rotate_left
  · intro w'
    go_simp
    try with_reducible rfl
  rotate_left
  · simp only [Act.put, List.setIfInBounds_toArray, List.set_cons_zero, List.set_cons_succ, i64_w, i32_w]
    rfl
  refine pure_ (i := 41) (N := some 83) (v := ?_) (a' := ?_) #[true, true, true, true, true, true, true, true, true, true, true, true, true, true, true, true, true, true, true, true, true, true, true, true, true, true, true, true, true, true, true, true, true, true, true, true, true, true, true, true, true, true, false, false, false, false, false, false, false, false, false, false, false, false, false, false, false] rfl rfl (by kernel_rfl) (fun _ _ _ h => h) (Or.inl ⟨by rfl, ?_⟩) ?_ ?_
  rotate_left
  · intro w'
    go_simp
    try with_reducible rfl
  rotate_left
  · simp only [Act.put, List.setIfInBounds_toArray, List.set_cons_zero, List.set_cons_succ, i64_w, i32_w]
    rfl
  refine pure_ (i := 42) (N := some 84) (v := ?_) (a' := ?_) #[true, true, true, true, true, true, true, true, true, true, true, true, true, true, true, true, true, true, true, true, true, true, true, true, true, true, true, true, true, true, true, true, true, true, true, true, true, true, true, true, true, true, true, false, false, false, false, false, false, false, false, false, false, false, false, false, false] rfl rfl (by kernel_rfl) (fun _ _ _ h => h) (Or.inl ⟨by rfl, ?_⟩) ?_ ?_
  rotate_left
  · intro w'
    go_simp
    try with_reducible rfl
  rotate_left
  · simp only [Act.put, List.setIfInBounds_toArray, List.set_cons_zero, List.set_cons_succ, i64_w, i32_w]
    rfl
  refine pure_ (i := 44) (N := some 86) (v := ?_) (a' := ?_) #[true, true, true, true, true, true, true, true, true, true, true, true, true, true, true, true, true, true, true, true, true, true, true, true, true, true, true, true, true, true, true, true, true, true, true, true, true, true, true, true, true, true, true, false, true, false, false, false, false, false, false, false, false, false, false, false, false] rfl rfl (by kernel_rfl) (fun _ _ _ h => h) (Or.inl ⟨by rfl, ?_⟩) ?_ ?_
  rotate_left
  · intro w'
    go_simp
    try with_reducible rfl
  rotate_left
  · simp only [Act.put, List.setIfInBounds_toArray, List.set_cons_zero, List.set_cons_succ, i64_w, i32_w]
    rfl
  refine one_ (i := 43) (N := some 85) #[true, true, true, true, true, true, true, true, true, true, true, true, true, true, true, true, true, true, true, true, true, true, true, true, true, true, true, true, true, true, true, true, true, true, true, true, true, true, true, true, true, true, true, true, true, false, false, false, false, false, false, false, false, false, false, false, false] rfl rfl (by kernel_rfl) (by decide) (fun K hK => ?_)
  refine goes_ Try.func40 (by kernel_rfl) rfl #[.string a, .string b] (by rfl) rfl rfl (by (try simp only [List.map_toArray, List.map_cons, List.map_nil]); first | done | rfl) ?_
  refine (HL.out _).mono ?_
  rintro e wz ⟨rfl, hb_⟩
  refine ⟨_, rfl, ?_⟩
  refine hK.out _ _ (hHeld.step hb_) (fun hHeld => ?_)
  clear hK K
  refine norm_ (a' := ?_) ?_ ?_
  rotate_left
  · show Act.put _ (some 85) _ = _
    simp only [Act.put, List.setIfInBounds_toArray, List.set_cons_zero, List.set_cons_succ, i64_w, i32_w]
    rfl
  cases oa with
  | false =>
    have hz := HK.out.off (.inl rfl)
    subst hz
    refine pure_ (i := 45) (N := some 87) (v := ?_) (a' := ?_) #[true, true, true, true, true, true, true, true, true, true, true, true, true, true, true, true, true, true, true, true, true, true, true, true, true, true, true, true, true, true, true, true, true, true, true, true, true, true, true, true, true, true, true, true, true, true, false, false, false, false, false, false, false, false, false, false, false] rfl rfl (by kernel_rfl) (fun _ _ _ h => h) (Or.inl ⟨by rfl, ?_⟩) ?_ ?_
    rotate_left
    · intro w'
      go_simp
      try with_reducible rfl
    rotate_left
    · simp only [Act.put, List.setIfInBounds_toArray, List.set_cons_zero, List.set_cons_succ, i64_w, i32_w]
      rfl
    refine pure_ (i := 46) (N := some 88) (v := undef) (a' := ?_) #[true, true, true, true, true, true, true, true, true, true, true, true, true, true, true, true, true, true, true, true, true, true, true, true, true, true, true, true, true, true, true, true, true, true, true, true, true, true, true, true, true, true, true, true, true, true, true, false, false, false, false, false, false, false, false, false, false] rfl rfl (by kernel_rfl) (fun _ _ _ h => h) (Or.inr ⟨by rfl, rfl⟩) ?_ ?_
    rotate_left
    · simp only [Act.put, List.setIfInBounds_toArray, List.set_cons_zero, List.set_cons_succ, i64_w, i32_w]
      rfl
    refine pure_ (i := 47) (N := some 89) (v := ?_) (a' := ?_) #[true, true, true, true, true, true, true, true, true, true, true, true, true, true, true, true, true, true, true, true, true, true, true, true, true, true, true, true, true, true, true, true, true, true, true, true, true, true, true, true, true, true, true, true, true, true, true, true, false, false, false, false, false, false, false, false, false] rfl rfl (by kernel_rfl) (fun _ _ _ h => h) (Or.inl ⟨by rfl, ?_⟩) ?_ ?_
    rotate_left
    · intro w'
      go_simp
      try with_reducible rfl
    rotate_left
    · simp only [Act.put, List.setIfInBounds_toArray, List.set_cons_zero, List.set_cons_succ, i64_w, i32_w]
      rfl
    refine pure_ (i := 48) (N := some 90) (v := ?_) (a' := ?_) #[true, true, true, true, true, true, true, true, true, true, true, true, true, true, true, true, true, true, true, true, true, true, true, true, true, true, true, true, true, true, true, true, true, true, true, true, true, true, true, true, true, true, true, true, true, true, true, true, true, false, false, false, false, false, false, false, false] rfl rfl (by kernel_rfl) (fun _ _ _ h => h) (Or.inl ⟨by rfl, ?_⟩) ?_ ?_
    rotate_left
    · intro w'
      go_simp
      try with_reducible rfl
    rotate_left
    · simp only [Act.put, List.setIfInBounds_toArray, List.set_cons_zero, List.set_cons_succ, i64_w, i32_w]
      rfl
    refine pure_ (i := 49) (N := some 91) (v := undef) (a' := ?_) #[true, true, true, true, true, true, true, true, true, true, true, true, true, true, true, true, true, true, true, true, true, true, true, true, true, true, true, true, true, true, true, true, true, true, true, true, true, true, true, true, true, true, true, true, true, true, true, true, true, true, false, false, false, false, false, false, false] rfl rfl (by kernel_rfl) (fun _ _ _ h => h) (Or.inr ⟨by rfl, rfl⟩) ?_ ?_
    rotate_left
    · simp only [Act.put, List.setIfInBounds_toArray, List.set_cons_zero, List.set_cons_succ, i64_w, i32_w]
      rfl
    refine pure_ (i := 50) (N := some 92) (v := undef) (a' := ?_) #[true, true, true, true, true, true, true, true, true, true, true, true, true, true, true, true, true, true, true, true, true, true, true, true, true, true, true, true, true, true, true, true, true, true, true, true, true, true, true, true, true, true, true, true, true, true, true, true, true, true, true, false, false, false, false, false, false] rfl rfl (by kernel_rfl) (fun _ _ _ h => h) (Or.inr ⟨by rfl, rfl⟩) ?_ ?_
    rotate_left
    · simp only [Act.put, List.setIfInBounds_toArray, List.set_cons_zero, List.set_cons_succ, i64_w, i32_w]
      rfl
    refine pure_ (i := 51) (N := some 93) (v := undef) (a' := ?_) #[true, true, true, true, true, true, true, true, true, true, true, true, true, true, true, true, true, true, true, true, true, true, true, true, true, true, true, true, true, true, true, true, true, true, true, true, true, true, true, true, true, true, true, true, true, true, true, true, true, true, true, true, false, false, false, false, false] rfl rfl (by kernel_rfl) (fun _ _ _ h => h) (Or.inr ⟨by rfl, rfl⟩) ?_ ?_
    rotate_left
    · simp only [Act.put, List.setIfInBounds_toArray, List.set_cons_zero, List.set_cons_succ, i64_w, i32_w]
      rfl
    refine pure_ (i := 52) (N := some 94) (v := undef) (a' := ?_) #[true, true, true, true, true, true, true, true, true, true, true, true, true, true, true, true, true, true, true, true, true, true, true, true, true, true, true, true, true, true, true, true, true, true, true, true, true, true, true, true, true, true, true, true, true, true, true, true, true, true, true, true, true, false, false, false, false] rfl rfl (by kernel_rfl) (fun _ _ _ h => h) (Or.inr ⟨by rfl, rfl⟩) ?_ ?_
    rotate_left
    · simp only [Act.put, List.setIfInBounds_toArray, List.set_cons_zero, List.set_cons_succ, i64_w, i32_w]
      rfl
    refine pure_ (i := 53) (N := some 95) (v := undef) (a' := ?_) #[true, true, true, true, true, true, true, true, true, true, true, true, true, true, true, true, true, true, true, true, true, true, true, true, true, true, true, true, true, true, true, true, true, true, true, true, true, true, true, true, true, true, true, true, true, true, true, true, true, true, true, true, true, true, false, false, false] rfl rfl (by kernel_rfl) (fun _ _ _ h => h) (Or.inr ⟨by rfl, rfl⟩) ?_ ?_
    rotate_left
    · simp only [Act.put, List.setIfInBounds_toArray, List.set_cons_zero, List.set_cons_succ, i64_w, i32_w]
      rfl
    refine pure_ (i := 54) (N := some 96) (v := ?_) (a' := ?_) #[true, true, true, true, true, true, true, true, true, true, true, true, true, true, true, true, true, true, true, true, true, true, true, true, true, true, true, true, true, true, true, true, true, true, true, true, true, true, true, true, true, true, true, true, true, true, true, true, true, true, true, true, true, true, true, false, false] rfl rfl (by kernel_rfl) (fun _ _ _ h => h) (Or.inl ⟨by rfl, ?_⟩) ?_ ?_
    rotate_left
    · intro w'
      go_simp
      try with_reducible rfl
    rotate_left
    · simp only [Act.put, List.setIfInBounds_toArray, List.set_cons_zero, List.set_cons_succ, i64_w, i32_w]
      rfl
    refine pure_ (i := 55) (N := some 97) (v := ?_) (a' := ?_) #[true, true, true, true, true, true, true, true, true, true, true, true, true, true, true, true, true, true, true, true, true, true, true, true, true, true, true, true, true, true, true, true, true, true, true, true, true, true, true, true, true, true, true, true, true, true, true, true, true, true, true, true, true, true, true, true, false] rfl rfl (by kernel_rfl) (fun _ _ _ h => h) (Or.inl ⟨by rfl, ?_⟩) ?_ ?_
    rotate_left
    · intro w'
      go_simp
      try with_reducible rfl
    rotate_left
    · simp only [Act.put, List.setIfInBounds_toArray, List.set_cons_zero, List.set_cons_succ, i64_w, i32_w]
      rfl
    refine pure_ (i := 56) (N := some 98) (v := ?_) (a' := ?_) #[true, true, true, true, true, true, true, true, true, true, true, true, true, true, true, true, true, true, true, true, true, true, true, true, true, true, true, true, true, true, true, true, true, true, true, true, true, true, true, true, true, true, true, true, true, true, true, true, true, true, true, true, true, true, true, true, true] rfl rfl (by kernel_rfl) (fun _ _ _ h => h) (Or.inl ⟨by rfl, ?_⟩) ?_ ?_
    rotate_left
    · intro w'
      go_simp
      try with_reducible rfl
    rotate_left
    · simp only [Act.put, List.setIfInBounds_toArray, List.set_cons_zero, List.set_cons_succ, i64_w, i32_w]
      rfl
    refine done_ (by kernel_rfl) ?_
    clear hsame ee
    have hB := hHeld.b
    clear hHeld hP
    go_wp2_with fail
    refine (names_calls _).mono ?_
    rintro e w6 ⟨vv, rfl, hown, hb6⟩
    replace hB := bthen hB hb6
    clear hb6
    obtain ⟨hlen, ⟨_, h0⟩ | ⟨g, cap, cur, rfl, _, hg, hcap, _, hcs, hcur⟩⟩ := hown
    · cases h0
    have hat : ∀ (k : Nat) (x : URow), units[k]? = some x → w6.cell? ⟨g, k, none⟩ = some (.string x.name) := by
      intro k x hk
      have hk25 : k < 25 := (List.getElem?_eq_some_iff.1 hk).1
      rw [blk_cell hg k, ← Array.getElem?_toList]
      have : cur.toList[k]? = (cur.toList.take (25 * 1))[k]? := by rw [List.getElem?_take_of_lt (by omega)]
      rw [this, hcur, List.getElem?_map, hk]
      rfl
    have HAT := Lib.hid hat
    clear hat hcur hcs hlen hg
    go_wp2_with fail
    go_loopw [12, 13] (RelP w6 a) (fun _ i _ => 25 - (intOf i).toNat)
    case atStart => exact ⟨0, Nat.zero_le _, rfl, rfl, rfl⟩
    case round =>
      obtain ⟨k, hk, rfl, rfl, rfl⟩ := hrel
      by_cases hlt : k < 25
      · have hlu : units.length = 25 := rfl
        obtain ⟨x, hku⟩ : ∃ x, units[k]? = some x := ⟨units[k]'(by omega), List.getElem?_eq_getElem _⟩
        have hc := HAT.out k x hku
        have hm := count_more a hku
        have hle := count_le a k (by omega)
        obtain ⟨c, hcc⟩ : ∃ c, (units.take k).countP (fun u => u.name.toList == a.toList) = c := ⟨_, rfl⟩
        rw [hcc] at hm hle
        rw [hcc]
        have HM := Lib.hid hm
        clear hm hku hcc
        cases hx : (x.name.toList == a.toList) with
        | true =>
          go_wp2_with fail
          refine ⟨⟨k + 1, by omega, by simp, ?_, rfl⟩, ?_⟩
          · rw [HM.out, hx]; simp
          · simp [intOf]; omega
        | false =>
          go_wp2_with fail
          refine ⟨⟨k + 1, by omega, by simp, ?_, rfl⟩, ?_⟩
          · rw [HM.out, hx]; simp
          · simp [intOf]; omega
      · obtain rfl : k = 25 := by omega
        have hcnt := HK.out.count
        rw [show units.take 25 = units from rfl, hcnt]
        clear hcnt
        simp only [Bool.false_eq_true, if_false]
        go_wp2_with fail
        go_ret
        exact ⟨by simp, hB⟩
  | true =>
    cases ob with
    | false =>
      have hz := HK.out.off (.inr rfl)
      subst hz
      refine pure_ (i := 45) (N := some 87) (v := ?_) (a' := ?_) #[true, true, true, true, true, true, true, true, true, true, true, true, true, true, true, true, true, true, true, true, true, true, true, true, true, true, true, true, true, true, true, true, true, true, true, true, true, true, true, true, true, true, true, true, true, true, false, false, false, false, false, false, false, false, false, false, false] rfl rfl (by kernel_rfl) (fun _ _ _ h => h) (Or.inl ⟨by rfl, ?_⟩) ?_ ?_
      rotate_left
      · intro w'
        go_simp
        try with_reducible rfl
      rotate_left
      · simp only [Act.put, List.setIfInBounds_toArray, List.set_cons_zero, List.set_cons_succ, i64_w, i32_w]
        rfl
      refine pure_ (i := 46) (N := some 88) (v := ?_) (a' := ?_) #[true, true, true, true, true, true, true, true, true, true, true, true, true, true, true, true, true, true, true, true, true, true, true, true, true, true, true, true, true, true, true, true, true, true, true, true, true, true, true, true, true, true, true, true, true, true, true, false, false, false, false, false, false, false, false, false, false] rfl rfl (by kernel_rfl) (fun _ _ _ h => h) (Or.inl ⟨by rfl, ?_⟩) ?_ ?_
      rotate_left
      · intro w'
        go_simp
        try with_reducible rfl
      rotate_left
      · simp only [Act.put, List.setIfInBounds_toArray, List.set_cons_zero, List.set_cons_succ, i64_w, i32_w]
        rfl
      refine pure_ (i := 47) (N := some 89) (v := ?_) (a' := ?_) #[true, true, true, true, true, true, true, true, true, true, true, true, true, true, true, true, true, true, true, true, true, true, true, true, true, true, true, true, true, true, true, true, true, true, true, true, true, true, true, true, true, true, true, true, true, true, true, true, false, false, false, false, false, false, false, false, false] rfl rfl (by kernel_rfl) (fun _ _ _ h => h) (Or.inl ⟨by rfl, ?_⟩) ?_ ?_
      rotate_left
      · intro w'
        go_simp
        try with_reducible rfl
      rotate_left
      · simp only [Act.put, List.setIfInBounds_toArray, List.set_cons_zero, List.set_cons_succ, i64_w, i32_w]
        rfl
      refine pure_ (i := 48) (N := some 90) (v := ?_) (a' := ?_) #[true, true, true, true, true, true, true, true, true, true, true, true, true, true, true, true, true, true, true, true, true, true, true, true, true, true, true, true, true, true, true, true, true, true, true, true, true, true, true, true, true, true, true, true, true, true, true, true, true, false, false, false, false, false, false, false, false] rfl rfl (by kernel_rfl) (fun _ _ _ h => h) (Or.inl ⟨by rfl, ?_⟩) ?_ ?_
      rotate_left
      · intro w'
        go_simp
        try with_reducible rfl
      rotate_left
      · simp only [Act.put, List.setIfInBounds_toArray, List.set_cons_zero, List.set_cons_succ, i64_w, i32_w]
        rfl
      refine pure_ (i := 49) (N := some 91) (v := undef) (a' := ?_) #[true, true, true, true, true, true, true, true, true, true, true, true, true, true, true, true, true, true, true, true, true, true, true, true, true, true, true, true, true, true, true, true, true, true, true, true, true, true, true, true, true, true, true, true, true, true, true, true, true, true, false, false, false, false, false, false, false] rfl rfl (by kernel_rfl) (fun _ _ _ h => h) (Or.inr ⟨by rfl, rfl⟩) ?_ ?_
      rotate_left
      · simp only [Act.put, List.setIfInBounds_toArray, List.set_cons_zero, List.set_cons_succ, i64_w, i32_w]
        rfl
      refine pure_ (i := 50) (N := some 92) (v := undef) (a' := ?_) #[true, true, true, true, true, true, true, true, true, true, true, true, true, true, true, true, true, true, true, true, true, true, true, true, true, true, true, true, true, true, true, true, true, true, true, true, true, true, true, true, true, true, true, true, true, true, true, true, true, true, true, false, false, false, false, false, false] rfl rfl (by kernel_rfl) (fun _ _ _ h => h) (Or.inr ⟨by rfl, rfl⟩) ?_ ?_
      rotate_left
      · simp only [Act.put, List.setIfInBounds_toArray, List.set_cons_zero, List.set_cons_succ, i64_w, i32_w]
        rfl
      refine pure_ (i := 51) (N := some 93) (v := undef) (a' := ?_) #[true, true, true, true, true, true, true, true, true, true, true, true, true, true, true, true, true, true, true, true, true, true, true, true, true, true, true, true, true, true, true, true, true, true, true, true, true, true, true, true, true, true, true, true, true, true, true, true, true, true, true, true, false, false, false, false, false] rfl rfl (by kernel_rfl) (fun _ _ _ h => h) (Or.inr ⟨by rfl, rfl⟩) ?_ ?_
      rotate_left
      · simp only [Act.put, List.setIfInBounds_toArray, List.set_cons_zero, List.set_cons_succ, i64_w, i32_w]
        rfl
      refine pure_ (i := 52) (N := some 94) (v := undef) (a' := ?_) #[true, true, true, true, true, true, true, true, true, true, true, true, true, true, true, true, true, true, true, true, true, true, true, true, true, true, true, true, true, true, true, true, true, true, true, true, true, true, true, true, true, true, true, true, true, true, true, true, true, true, true, true, true, false, false, false, false] rfl rfl (by kernel_rfl) (fun _ _ _ h => h) (Or.inr ⟨by rfl, rfl⟩) ?_ ?_
      rotate_left
      · simp only [Act.put, List.setIfInBounds_toArray, List.set_cons_zero, List.set_cons_succ, i64_w, i32_w]
        rfl
      refine pure_ (i := 53) (N := some 95) (v := undef) (a' := ?_) #[true, true, true, true, true, true, true, true, true, true, true, true, true, true, true, true, true, true, true, true, true, true, true, true, true, true, true, true, true, true, true, true, true, true, true, true, true, true, true, true, true, true, true, true, true, true, true, true, true, true, true, true, true, true, false, false, false] rfl rfl (by kernel_rfl) (fun _ _ _ h => h) (Or.inr ⟨by rfl, rfl⟩) ?_ ?_
      rotate_left
      · simp only [Act.put, List.setIfInBounds_toArray, List.set_cons_zero, List.set_cons_succ, i64_w, i32_w]
        rfl
      refine pure_ (i := 54) (N := some 96) (v := ?_) (a' := ?_) #[true, true, true, true, true, true, true, true, true, true, true, true, true, true, true, true, true, true, true, true, true, true, true, true, true, true, true, true, true, true, true, true, true, true, true, true, true, true, true, true, true, true, true, true, true, true, true, true, true, true, true, true, true, true, true, false, false] rfl rfl (by kernel_rfl) (fun _ _ _ h => h) (Or.inl ⟨by rfl, ?_⟩) ?_ ?_
      rotate_left
      · intro w'
        go_simp
        try with_reducible rfl
      rotate_left
      · simp only [Act.put, List.setIfInBounds_toArray, List.set_cons_zero, List.set_cons_succ, i64_w, i32_w]
        rfl
      refine pure_ (i := 55) (N := some 97) (v := ?_) (a' := ?_) #[true, true, true, true, true, true, true, true, true, true, true, true, true, true, true, true, true, true, true, true, true, true, true, true, true, true, true, true, true, true, true, true, true, true, true, true, true, true, true, true, true, true, true, true, true, true, true, true, true, true, true, true, true, true, true, true, false] rfl rfl (by kernel_rfl) (fun _ _ _ h => h) (Or.inl ⟨by rfl, ?_⟩) ?_ ?_
      rotate_left
      · intro w'
        go_simp
        try with_reducible rfl
      rotate_left
      · simp only [Act.put, List.setIfInBounds_toArray, List.set_cons_zero, List.set_cons_succ, i64_w, i32_w]
        rfl
      refine pure_ (i := 56) (N := some 98) (v := ?_) (a' := ?_) #[true, true, true, true, true, true, true, true, true, true, true, true, true, true, true, true, true, true, true, true, true, true, true, true, true, true, true, true, true, true, true, true, true, true, true, true, true, true, true, true, true, true, true, true, true, true, true, true, true, true, true, true, true, true, true, true, true] rfl rfl (by kernel_rfl) (fun _ _ _ h => h) (Or.inl ⟨by rfl, ?_⟩) ?_ ?_
      rotate_left
      · intro w'
        go_simp
        try with_reducible rfl
      rotate_left
      · simp only [Act.put, List.setIfInBounds_toArray, List.set_cons_zero, List.set_cons_succ, i64_w, i32_w]
        rfl
      refine done_ (by kernel_rfl) ?_
      clear hsame ee
      have hB := hHeld.b
      clear hHeld hP
      go_wp2_with fail
      refine (names_calls _).mono ?_
      rintro e w6 ⟨vv, rfl, hown, hb6⟩
      replace hB := bthen hB hb6
      clear hb6
      obtain ⟨hlen, ⟨_, h0⟩ | ⟨g, cap, cur, rfl, _, hg, hcap, _, hcs, hcur⟩⟩ := hown
      · cases h0
      have hat : ∀ (k : Nat) (x : URow), units[k]? = some x → w6.cell? ⟨g, k, none⟩ = some (.string x.name) := by
        intro k x hk
        have hk25 : k < 25 := (List.getElem?_eq_some_iff.1 hk).1
        rw [blk_cell hg k, ← Array.getElem?_toList]
        have : cur.toList[k]? = (cur.toList.take (25 * 1))[k]? := by rw [List.getElem?_take_of_lt (by omega)]
        rw [this, hcur, List.getElem?_map, hk]
        rfl
      have HAT := Lib.hid hat
      clear hat hcur hcs hlen hg
      go_wp2_with fail
      go_loopw [12, 13] (RelP w6 a) (fun _ i _ => 25 - (intOf i).toNat)
      case atStart => exact ⟨0, Nat.zero_le _, rfl, rfl, rfl⟩
      case round =>
        obtain ⟨k, hk, rfl, rfl, rfl⟩ := hrel
        by_cases hlt : k < 25
        · have hlu : units.length = 25 := rfl
          obtain ⟨x, hku⟩ : ∃ x, units[k]? = some x := ⟨units[k]'(by omega), List.getElem?_eq_getElem _⟩
          have hc := HAT.out k x hku
          have hm := count_more a hku
          have hle := count_le a k (by omega)
          obtain ⟨c, hcc⟩ : ∃ c, (units.take k).countP (fun u => u.name.toList == a.toList) = c := ⟨_, rfl⟩
          rw [hcc] at hm hle
          rw [hcc]
          have HM := Lib.hid hm
          clear hm hku hcc
          cases hx : (x.name.toList == a.toList) with
          | true =>
            go_wp2_with fail
            refine ⟨⟨k + 1, by omega, by simp, ?_, rfl⟩, ?_⟩
            · rw [HM.out, hx]; simp
            · simp [intOf]; omega
          | false =>
            go_wp2_with fail
            refine ⟨⟨k + 1, by omega, by simp, ?_, rfl⟩, ?_⟩
            · rw [HM.out, hx]; simp
            · simp [intOf]; omega
        · obtain rfl : k = 25 := by omega
          have hcnt := HK.out.count
          rw [show units.take 25 = units from rfl, hcnt]
          clear hcnt
          simp only [if_true]
          go_wp2_with fail
          go_ret
          exact ⟨by simp, hB⟩
    | true =>
      have he2 := HK.out.on rfl rfl
      refine pure_ (i := 45) (N := some 87) (v := ?_) (a' := ?_) #[true, true, true, true, true, true, true, true, true, true, true, true, true, true, true, true, true, true, true, true, true, true, true, true, true, true, true, true, true, true, true, true, true, true, true, true, true, true, true, true, true, true, true, true, true, true, false, false, false, false, false, false, false, false, false, false, false] rfl rfl (by kernel_rfl) (fun _ _ _ h => h) (Or.inl ⟨by rfl, ?_⟩) ?_ ?_
      rotate_left
      · intro w'
        go_simp
        try with_reducible rfl
      rotate_left
      · simp only [Act.put, List.setIfInBounds_toArray, List.set_cons_zero, List.set_cons_succ, i64_w, i32_w]
        rfl
      refine pure_ (i := 46) (N := some 88) (v := ?_) (a' := ?_) #[true, true, true, true, true, true, true, true, true, true, true, true, true, true, true, true, true, true, true, true, true, true, true, true, true, true, true, true, true, true, true, true, true, true, true, true, true, true, true, true, true, true, true, true, true, true, true, false, false, false, false, false, false, false, false, false, false] rfl rfl (by kernel_rfl) (fun _ _ _ h => h) (Or.inl ⟨by rfl, ?_⟩) ?_ ?_
      rotate_left
      · intro w'
        go_simp
        try with_reducible rfl
      rotate_left
      · simp only [Act.put, List.setIfInBounds_toArray, List.set_cons_zero, List.set_cons_succ, i64_w, i32_w]
        rfl
      refine pure_ (i := 47) (N := some 89) (v := ?_) (a' := ?_) #[true, true, true, true, true, true, true, true, true, true, true, true, true, true, true, true, true, true, true, true, true, true, true, true, true, true, true, true, true, true, true, true, true, true, true, true, true, true, true, true, true, true, true, true, true, true, true, true, false, false, false, false, false, false, false, false, false] rfl rfl (by kernel_rfl) (fun _ _ _ h => h) (Or.inl ⟨by rfl, ?_⟩) ?_ ?_
      rotate_left
      · intro w'
        go_simp
        try with_reducible rfl
      rotate_left
      · simp only [Act.put, List.setIfInBounds_toArray, List.set_cons_zero, List.set_cons_succ, i64_w, i32_w]
        rfl
      refine pure_ (i := 48) (N := some 90) (v := ?_) (a' := ?_) #[true, true, true, true, true, true, true, true, true, true, true, true, true, true, true, true, true, true, true, true, true, true, true, true, true, true, true, true, true, true, true, true, true, true, true, true, true, true, true, true, true, true, true, true, true, true, true, true, true, false, false, false, false, false, false, false, false] rfl rfl (by kernel_rfl) (fun _ _ _ h => h) (Or.inl ⟨by rfl, ?_⟩) ?_ ?_
      rotate_left
      · intro w'
        go_simp
        try with_reducible rfl
      rotate_left
      · simp only [Act.put, List.setIfInBounds_toArray, List.set_cons_zero, List.set_cons_succ, i64_w, i32_w]
        rfl
      refine pure_ (i := 49) (N := some 91) (v := ?_) (a' := ?_) #[true, true, true, true, true, true, true, true, true, true, true, true, true, true, true, true, true, true, true, true, true, true, true, true, true, true, true, true, true, true, true, true, true, true, true, true, true, true, true, true, true, true, true, true, true, true, true, true, true, true, false, false, false, false, false, false, false] rfl rfl (by kernel_rfl) (fun _ _ _ h => h) (Or.inl ⟨by rfl, ?_⟩) ?_ ?_
      rotate_left
      · intro w'
        go_simp
        try with_reducible rfl
      rotate_left
      · simp only [Act.put, List.setIfInBounds_toArray, List.set_cons_zero, List.set_cons_succ, i64_w, i32_w]
        rfl
      refine take_ (i := 50) (N := some 92) (v := ?_) (a' := ?_) #[true, true, true, true, true, true, true, true, true, true, true, true, true, true, true, true, true, true, true, true, true, true, true, true, true, true, true, true, true, true, true, true, true, true, true, true, true, true, true, true, true, true, true, true, true, true, true, true, true, true, true, false, false, false, false, false, false] rfl rfl (by kernel_rfl) (fun _ _ _ h => h) (Or.inl ⟨by rfl, ?_⟩) hHeld ?_ ?_
      rotate_left
      · rintro w' hh
        have c0 : w'.cell? ⟨p5, 0, none⟩ = some (.string u.name) := blk_cell hh.k5 0
        have c1 : w'.cell? ⟨p5, 1, none⟩ = some (.int .i64 u.d0) := blk_cell hh.k5 1
        have c2 : w'.cell? ⟨p5, 2, none⟩ = some (.int .i64 u.d1) := blk_cell hh.k5 2
        have c3 : w'.cell? ⟨p5, 3, none⟩ = some (.int .i64 u.d2) := blk_cell hh.k5 3
        have c4 : w'.cell? ⟨p5, 4, none⟩ = some (.int .i64 u.d3) := blk_cell hh.k5 4
        have c5 : w'.cell? ⟨p5, 5, none⟩ = some (.int .i64 u.fn) := blk_cell hh.k5 5
        have c6 : w'.cell? ⟨p5, 6, none⟩ = some (.int .i64 u.fd) := blk_cell hh.k5 6
        have c7 : w'.cell? ⟨p5, 7, none⟩ = some (.int .i64 u.on) := blk_cell hh.k5 7
        have c8 : w'.cell? ⟨p5, 8, none⟩ = some (.int .i64 u.od) := blk_cell hh.k5 8
        have c9 : w'.cell? ⟨p5, 9, none⟩ = some (.int .i64 u.code) := blk_cell hh.k5 9
        have d0 : w'.cell? ⟨p7, 0, none⟩ = some (.string nm) := blk_cell hh.k7 0
        have d1 : w'.cell? ⟨p7, 1, none⟩ = some (.int .i64 u.d0) := blk_cell hh.k7 1
        have d2 : w'.cell? ⟨p7, 2, none⟩ = some (.int .i64 u.d1) := blk_cell hh.k7 2
        have d3 : w'.cell? ⟨p7, 3, none⟩ = some (.int .i64 u.d2) := blk_cell hh.k7 3
        have d4 : w'.cell? ⟨p7, 4, none⟩ = some (.int .i64 u.d3) := blk_cell hh.k7 4
        have d5 : w'.cell? ⟨p7, 5, none⟩ = some (.int .i64 u.fn) := blk_cell hh.k7 5
        have d6 : w'.cell? ⟨p7, 6, none⟩ = some (.int .i64 u.fd) := blk_cell hh.k7 6
        have d7 : w'.cell? ⟨p7, 7, none⟩ = some (.int .i64 u.on) := blk_cell hh.k7 7
        have d8 : w'.cell? ⟨p7, 8, none⟩ = some (.int .i64 u.od) := blk_cell hh.k7 8
        have d9 : w'.cell? ⟨p7, 9, none⟩ = some (.int .i64 u.code) := blk_cell hh.k7 9
        have f1 : w'.cell? ⟨p9, 1, none⟩ = some (.int .i64 v.d0) := blk_cell hh.k9 1
        have f2 : w'.cell? ⟨p9, 2, none⟩ = some (.int .i64 v.d1) := blk_cell hh.k9 2
        have f3 : w'.cell? ⟨p9, 3, none⟩ = some (.int .i64 v.d2) := blk_cell hh.k9 3
        have f4 : w'.cell? ⟨p9, 4, none⟩ = some (.int .i64 v.d3) := blk_cell hh.k9 4
        go_simp
        with_reducible rfl
      rotate_left
      · simp only [Act.put, List.setIfInBounds_toArray, List.set_cons_zero, List.set_cons_succ, i64_w, i32_w]
        rfl
      refine pure_ (i := 51) (N := some 93) (v := ?_) (a' := ?_) #[true, true, true, true, true, true, true, true, true, true, true, true, true, true, true, true, true, true, true, true, true, true, true, true, true, true, true, true, true, true, true, true, true, true, true, true, true, true, true, true, true, true, true, true, true, true, true, true, true, true, true, true, false, false, false, false, false] rfl rfl (by kernel_rfl) (fun _ _ _ h => h) (Or.inl ⟨by rfl, ?_⟩) ?_ ?_
      rotate_left
      · intro w'
        go_simp
        try with_reducible rfl
      rotate_left
      · simp only [Act.put, List.setIfInBounds_toArray, List.set_cons_zero, List.set_cons_succ, i64_w, i32_w]
        rfl
      refine take_ (i := 52) (N := some 94) (v := ?_) (a' := ?_) #[true, true, true, true, true, true, true, true, true, true, true, true, true, true, true, true, true, true, true, true, true, true, true, true, true, true, true, true, true, true, true, true, true, true, true, true, true, true, true, true, true, true, true, true, true, true, true, true, true, true, true, true, true, false, false, false, false] rfl rfl (by kernel_rfl) (fun _ _ _ h => h) (Or.inl ⟨by rfl, ?_⟩) hHeld ?_ ?_
      rotate_left
      · rintro w' hh
        have c0 : w'.cell? ⟨p5, 0, none⟩ = some (.string u.name) := blk_cell hh.k5 0
        have c1 : w'.cell? ⟨p5, 1, none⟩ = some (.int .i64 u.d0) := blk_cell hh.k5 1
        have c2 : w'.cell? ⟨p5, 2, none⟩ = some (.int .i64 u.d1) := blk_cell hh.k5 2
        have c3 : w'.cell? ⟨p5, 3, none⟩ = some (.int .i64 u.d2) := blk_cell hh.k5 3
        have c4 : w'.cell? ⟨p5, 4, none⟩ = some (.int .i64 u.d3) := blk_cell hh.k5 4
        have c5 : w'.cell? ⟨p5, 5, none⟩ = some (.int .i64 u.fn) := blk_cell hh.k5 5
        have c6 : w'.cell? ⟨p5, 6, none⟩ = some (.int .i64 u.fd) := blk_cell hh.k5 6
        have c7 : w'.cell? ⟨p5, 7, none⟩ = some (.int .i64 u.on) := blk_cell hh.k5 7
        have c8 : w'.cell? ⟨p5, 8, none⟩ = some (.int .i64 u.od) := blk_cell hh.k5 8
        have c9 : w'.cell? ⟨p5, 9, none⟩ = some (.int .i64 u.code) := blk_cell hh.k5 9
        have d0 : w'.cell? ⟨p7, 0, none⟩ = some (.string nm) := blk_cell hh.k7 0
        have d1 : w'.cell? ⟨p7, 1, none⟩ = some (.int .i64 u.d0) := blk_cell hh.k7 1
        have d2 : w'.cell? ⟨p7, 2, none⟩ = some (.int .i64 u.d1) := blk_cell hh.k7 2
        have d3 : w'.cell? ⟨p7, 3, none⟩ = some (.int .i64 u.d2) := blk_cell hh.k7 3
        have d4 : w'.cell? ⟨p7, 4, none⟩ = some (.int .i64 u.d3) := blk_cell hh.k7 4
        have d5 : w'.cell? ⟨p7, 5, none⟩ = some (.int .i64 u.fn) := blk_cell hh.k7 5
        have d6 : w'.cell? ⟨p7, 6, none⟩ = some (.int .i64 u.fd) := blk_cell hh.k7 6
        have d7 : w'.cell? ⟨p7, 7, none⟩ = some (.int .i64 u.on) := blk_cell hh.k7 7
        have d8 : w'.cell? ⟨p7, 8, none⟩ = some (.int .i64 u.od) := blk_cell hh.k7 8
        have d9 : w'.cell? ⟨p7, 9, none⟩ = some (.int .i64 u.code) := blk_cell hh.k7 9
        have f1 : w'.cell? ⟨p9, 1, none⟩ = some (.int .i64 v.d0) := blk_cell hh.k9 1
        have f2 : w'.cell? ⟨p9, 2, none⟩ = some (.int .i64 v.d1) := blk_cell hh.k9 2
        have f3 : w'.cell? ⟨p9, 3, none⟩ = some (.int .i64 v.d2) := blk_cell hh.k9 3
        have f4 : w'.cell? ⟨p9, 4, none⟩ = some (.int .i64 v.d3) := blk_cell hh.k9 4
        go_simp
        with_reducible rfl
      rotate_left
      · simp only [Act.put, List.setIfInBounds_toArray, List.set_cons_zero, List.set_cons_succ, i64_w, i32_w]
        rfl
      refine pure_ (i := 53) (N := some 95) (v := ?_) (a' := ?_) #[true, true, true, true, true, true, true, true, true, true, true, true, true, true, true, true, true, true, true, true, true, true, true, true, true, true, true, true, true, true, true, true, true, true, true, true, true, true, true, true, true, true, true, true, true, true, true, true, true, true, true, true, true, true, false, false, false] rfl rfl (by kernel_rfl) (fun _ _ _ h => h) (Or.inl ⟨by rfl, ?_⟩) ?_ ?_
      rotate_left
      · intro w'
        go_simp
        try with_reducible rfl
      rotate_left
      · simp only [Act.put, List.setIfInBounds_toArray, List.set_cons_zero, List.set_cons_succ, i64_w, i32_w]
        rfl
      refine pure_ (i := 54) (N := some 96) (v := ?_) (a' := ?_) #[true, true, true, true, true, true, true, true, true, true, true, true, true, true, true, true, true, true, true, true, true, true, true, true, true, true, true, true, true, true, true, true, true, true, true, true, true, true, true, true, true, true, true, true, true, true, true, true, true, true, true, true, true, true, true, false, false] rfl rfl (by kernel_rfl) (fun _ _ _ h => h) (Or.inl ⟨by rfl, ?_⟩) ?_ ?_
      rotate_left
      · intro w'
        go_simp
        try with_reducible rfl
      rotate_left
      · simp only [Act.put, List.setIfInBounds_toArray, List.set_cons_zero, List.set_cons_succ, i64_w, i32_w]
        rfl
      refine pure_ (i := 55) (N := some 97) (v := ?_) (a' := ?_) #[true, true, true, true, true, true, true, true, true, true, true, true, true, true, true, true, true, true, true, true, true, true, true, true, true, true, true, true, true, true, true, true, true, true, true, true, true, true, true, true, true, true, true, true, true, true, true, true, true, true, true, true, true, true, true, true, false] rfl rfl (by kernel_rfl) (fun _ _ _ h => h) (Or.inl ⟨by rfl, ?_⟩) ?_ ?_
      rotate_left
      · intro w'
        go_simp
        try with_reducible rfl
      rotate_left
      · simp only [Act.put, List.setIfInBounds_toArray, List.set_cons_zero, List.set_cons_succ, i64_w, i32_w]
        rfl
      refine pure_ (i := 56) (N := some 98) (v := ?_) (a' := ?_) #[true, true, true, true, true, true, true, true, true, true, true, true, true, true, true, true, true, true, true, true, true, true, true, true, true, true, true, true, true, true, true, true, true, true, true, true, true, true, true, true, true, true, true, true, true, true, true, true, true, true, true, true, true, true, true, true, true] rfl rfl (by kernel_rfl) (fun _ _ _ h => h) (Or.inl ⟨by rfl, ?_⟩) ?_ ?_
      rotate_left
      · intro w'
        go_simp
        try with_reducible rfl
      rotate_left
      · simp only [Act.put, List.setIfInBounds_toArray, List.set_cons_zero, List.set_cons_succ, i64_w, i32_w]
        rfl
      refine done_ (by kernel_rfl) ?_
      clear he2
      clear hsame ee
      have hB := hHeld.b
      clear hHeld hP
      go_wp2_with fail
      refine (names_calls _).mono ?_
      rintro e w6 ⟨vv, rfl, hown, hb6⟩
      replace hB := bthen hB hb6
      clear hb6
      obtain ⟨hlen, ⟨_, h0⟩ | ⟨g, cap, cur, rfl, _, hg, hcap, _, hcs, hcur⟩⟩ := hown
      · cases h0
      have hat : ∀ (k : Nat) (x : URow), units[k]? = some x → w6.cell? ⟨g, k, none⟩ = some (.string x.name) := by
        intro k x hk
        have hk25 : k < 25 := (List.getElem?_eq_some_iff.1 hk).1
        rw [blk_cell hg k, ← Array.getElem?_toList]
        have : cur.toList[k]? = (cur.toList.take (25 * 1))[k]? := by rw [List.getElem?_take_of_lt (by omega)]
        rw [this, hcur, List.getElem?_map, hk]
        rfl
      have HAT := Lib.hid hat
      clear hat hcur hcs hlen hg
      go_wp2_with fail
      go_loopw [12, 13] (RelP w6 a) (fun _ i _ => 25 - (intOf i).toNat)
      case atStart => exact ⟨0, Nat.zero_le _, rfl, rfl, rfl⟩
      case round =>
        obtain ⟨k, hk, rfl, rfl, rfl⟩ := hrel
        by_cases hlt : k < 25
        · have hlu : units.length = 25 := rfl
          obtain ⟨x, hku⟩ : ∃ x, units[k]? = some x := ⟨units[k]'(by omega), List.getElem?_eq_getElem _⟩
          have hc := HAT.out k x hku
          have hm := count_more a hku
          have hle := count_le a k (by omega)
          obtain ⟨c, hcc⟩ : ∃ c, (units.take k).countP (fun u => u.name.toList == a.toList) = c := ⟨_, rfl⟩
          rw [hcc] at hm hle
          rw [hcc]
          have HM := Lib.hid hm
          clear hm hku hcc
          cases hx : (x.name.toList == a.toList) with
          | true =>
            go_wp2_with fail
            refine ⟨⟨k + 1, by omega, by simp, ?_, rfl⟩, ?_⟩
            · rw [HM.out, hx]; simp
            · simp [intOf]; omega
          | false =>
            go_wp2_with fail
            refine ⟨⟨k + 1, by omega, by simp, ?_, rfl⟩, ?_⟩
            · rw [HM.out, hx]; simp
            · simp [intOf]; omega
        · obtain rfl : k = 25 := by omega
          have hcnt := HK.out.count
          rw [show units.take 25 = units from rfl, hcnt]
          clear hcnt
          simp only [if_true]
          go_wp2_with fail
          go_ret
          exact ⟨by simp, hB⟩
end Go.Proofs.Ytcldlfhnmkogeaa.UnitPlaysWalk

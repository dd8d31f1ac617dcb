import Derived.Test.YtcldlfhnmkogeaaUnitBase
/- A unit by its name, as the document has it (lancetref03.Find), walked. -/
set_option linter.unusedVariables false
set_option linter.unusedSimpArgs false
namespace Go.Proofs.Ytcldlfhnmkogeaa.Unit
open Go.RowKit Go.Proofs.YtcldlfhnmkogeaaW.PrintWords Go.Proofs.YtcldlfhnmkogeaaW.PrintLast Go.Proofs.Ytcldlfhnmkogeaa.Nats Go.Proofs.Ytcldlfhnmkogeaa.HeapKit

/-- What the document answers. -/
def refRow (name : ByteArray) : URow := match find name with | some u => { u with name := name } | none => zrow
def dimsL : List Value := units.flatMap fun u => [.int .i64 u.d0, .int .i64 u.d1, .int .i64 u.d2, .int .i64 u.d3]
def numsL : List Value := units.flatMap fun u => [.int .i64 u.fn, .int .i64 u.fd, .int .i64 u.on, .int .i64 u.od]
def namesL : List Value := units.map fun u => .string u.name
def codesL : List Value := units.map fun u => .int .i64 u.code
theorem flat4 (f : URow → List Value) (hf : ∀ u, (f u).length = 4) : ∀ (l : List URow) (k : Nat) (u : URow), l[k]? = some u → ∀ j v, (f u)[j]? = some v → (l.flatMap f)[k * 4 + j]? = some v := by
  intro l
  induction l with
  | nil => intro k u h; simp at h
  | cons a l ih =>
    intro k u h j v hv
    have hl := hf a
    rw [List.flatMap_cons]
    cases k with
    | zero =>
      simp at h
      subst h
      rw [Nat.zero_mul, Nat.zero_add, List.getElem?_append_left (List.getElem?_eq_some_iff.1 hv).1]
      exact hv
    | succ k =>
      simp at h
      rw [List.getElem?_append_right (by rw [hl]; omega), hl, show (k + 1) * 4 + j - 4 = k * 4 + j from by omega]
      exact ih k u h j v hv
/-- The four rows lie in the heap. -/
structure Rows (W : World) (g1 g2 g3 g4 : Nat) : Prop where
  r1 : W.heap[g1]? = some (.cells namesL.toArray 9 (0, 0))
  r2 : W.heap[g2]? = some (.cells dimsL.toArray 46 (0, 0))
  r3 : W.heap[g3]? = some (.cells numsL.toArray 106 (0, 0))
  r4 : W.heap[g4]? = some (.cells codesL.toArray 3 (0, 0))
theorem Rows.step {W w2 : World} {g1 g2 g3 g4 : Nat} (h : Rows W g1 g2 g3 g4) (hb : Below W.heap.size W w2) : Rows w2 g1 g2 g3 g4 := ⟨blk_below h.r1 hb, blk_below h.r2 hb, blk_below h.r3 hb, blk_below h.r4 hb⟩
theorem Rows.alloc {W : World} {g1 g2 g3 g4 : Nat} (h : Rows W g1 g2 g3 g4) (o : Obj) : Rows (W.alloc o) g1 g2 g3 g4 := ⟨blk_alloc h.r1 o, blk_alloc h.r2 o, blk_alloc h.r3 o, blk_alloc h.r4 o⟩
section
variable {W : World} {g1 g2 g3 g4 k : Nat} {u : URow}
theorem Rows.name (h : Rows W g1 g2 g3 g4) (hk : units[k]? = some u) : W.cell? ⟨g1, k, none⟩ = some (.string u.name) := by
  rw [blk_cell h.r1 k, List.getElem?_toArray, namesL, List.getElem?_map, hk]
  rfl
theorem Rows.code (h : Rows W g1 g2 g3 g4) (hk : units[k]? = some u) : W.cell? ⟨g4, k, none⟩ = some (.int .i64 u.code) := by
  rw [blk_cell h.r4 k, List.getElem?_toArray, codesL, List.getElem?_map, hk]
  rfl
theorem Rows.dim (h : Rows W g1 g2 g3 g4) (hk : units[k]? = some u) (j : Nat) {v : Value} (hv : ([.int .i64 u.d0, .int .i64 u.d1, .int .i64 u.d2, .int .i64 u.d3] : List Value)[j]? = some v) : W.cell? ⟨g2, k * 4 + j, none⟩ = some v := by
  rw [blk_cell h.r2 _, List.getElem?_toArray, dimsL]
  exact flat4 _ (fun _ => rfl) _ _ _ hk _ _ hv
theorem Rows.num (h : Rows W g1 g2 g3 g4) (hk : units[k]? = some u) (j : Nat) {v : Value} (hv : ([.int .i64 u.fn, .int .i64 u.fd, .int .i64 u.on, .int .i64 u.od] : List Value)[j]? = some v) : W.cell? ⟨g3, k * 4 + j, none⟩ = some v := by
  rw [blk_cell h.r3 _, List.getElem?_toArray, numsL]
  exact flat4 _ (fun _ => rfl) _ _ _ hk _ _ hv
end
theorem take_hit {name : ByteArray} {k : Nat} {u : URow} (hk : units[k]? = some u) (h1 : ∀ x ∈ units.take k, x.name.toList ≠ name.toList) (h2 : u.name.toList = name.toList) : find name = some u :=
  find_hit (pre := units.take k) (k := k + 1) (by rw [List.take_add_one, hk]; rfl) h1 h2
theorem take_more {name : ByteArray} {k : Nat} {u : URow} (hk : units[k]? = some u) (h1 : ∀ x ∈ units.take k, x.name.toList ≠ name.toList) (h2 : u.name.toList ≠ name.toList) : ∀ x ∈ units.take (k + 1), x.name.toList ≠ name.toList := by
  intro x hx
  rw [List.take_add_one, hk] at hx
  rcases List.mem_append.1 hx with h | h
  · exact h1 x h
  · rw [show x = u from by simpa using h]; exact h2
/-- Between two rounds. -/
def RelF (name : ByteArray) (w4 : World) (s8 : Value) (wr : World) : Prop := ∃ k : Nat, k ≤ 25 ∧ s8 = .int .i64 (k : Int) ∧ wr = w4 ∧ ∀ x ∈ units.take k, x.name.toList ≠ name.toList

set_option maxRecDepth 100000 in
set_option maxHeartbeats 16000000 in
theorem reffind_calls (name : ByteArray) (w : World) :
    Calls Try.prog 30 #[.string name] w fun e w' => e = .returned (.tuple #[(refRow name).val, .bool (find name).isSome]) ∧ Below w.heap.size w w' := by
  have hB := b1_start w (.cells #[.string ⟨#[]⟩, .int .i64 0, .int .i64 0, .int .i64 0, .int .i64 0, .int .i64 0, .int .i64 0, .int .i64 0, .int .i64 0, .int .i64 0] 48)
  go_enter Try.func30, Try.ntmps30
  go_wp2_with (first | (((with_reducible refine gate_dst (N := 10) rfl ?_); refine lit_event ?hg (N := 10) ?hd (cs := namesL.toArray) (t := 9) (n := 25) ?hr ?_; (case hd => rfl); (case hg => rfl); (case hr => kernel_rfl); intro g1 hg1 w1 hr1 hB1)) | (((with_reducible refine gate_dst (N := 36) rfl ?_); refine lit_event ?hg (N := 36) ?hd (cs := dimsL.toArray) (t := 46) (n := 25) ?hr ?_; (case hd => rfl); (case hg => rfl); (case hr => kernel_rfl); intro g2 hg2 w2 hr2 hB2)) | (((with_reducible refine gate_dst (N := 62) rfl ?_); refine lit_event ?hg (N := 62) ?hd (cs := numsL.toArray) (t := 106) (n := 25) ?hr ?_; (case hd => rfl); (case hg => rfl); (case hr => kernel_rfl); intro g3 hg3 w3 hr3 hB3)) | (((with_reducible refine gate_dst (N := 63) rfl ?_); refine lit_event ?hg (N := 63) ?hd (cs := codesL.toArray) (t := 3) (n := 25) ?hr ?_; (case hd => rfl); (case hg => rfl); (case hr => kernel_rfl); intro g4 hg4 w4 hr4 hB4)) | fail)
  subst hg2 hg3 hg4
  rw [World.size_alloc] at hg1
  subst hg1
  have hR : Rows w4 (w.heap.size + 1) w1.heap.size w2.heap.size w3.heap.size := ⟨blk_below (blk_below (blk_below hr1 hB2) hB3) hB4, blk_below (blk_below hr2 hB3) hB4, blk_below hr3 hB4, hr4⟩
  have hC := (((hB.step hB1).step hB2).step hB3).step hB4
  clear hB hB1 hB2 hB3 hB4 hr1 hr2 hr3 hr4
  generalize Value.agg #[.int .i64 0, .int .i64 0, .int .i64 0, .int .i64 0] = z0
  generalize Value.agg #[.int .i64 1, .int .i64 1, .int .i64 0, .int .i64 1] = z1
  generalize Value.agg #[.int .i64 1, .int .i64 100, .int .i64 0, .int .i64 1] = z2
  generalize Value.agg #[.int .i64 1, .int .i64 0, .int .i64 0, .int .i64 0] = z3
  generalize Value.agg #[.int .i64 1, .int .i64 1000, .int .i64 0, .int .i64 1] = z4
  generalize Value.agg #[.int .i64 45359237, .int .i64 100000000, .int .i64 0, .int .i64 1] = z5
  generalize Value.agg #[.int .i64 0, .int .i64 1, .int .i64 0, .int .i64 0] = z6
  generalize Value.agg #[.int .i64 127, .int .i64 5000, .int .i64 0, .int .i64 1] = z7
  generalize Value.agg #[.int .i64 0, .int .i64 0, .int .i64 1, .int .i64 0] = z8
  generalize Value.agg #[.int .i64 60, .int .i64 1, .int .i64 0, .int .i64 1] = z9
  generalize Value.agg #[.int .i64 3600, .int .i64 1, .int .i64 0, .int .i64 1] = z10
  generalize Value.agg #[.int .i64 0, .int .i64 0, .int .i64 0, .int .i64 1] = z11
  generalize Value.agg #[.int .i64 1, .int .i64 1, .int .i64 5463, .int .i64 20] = z12
  generalize Value.agg #[.int .i64 5, .int .i64 9, .int .i64 45967, .int .i64 180] = z13
  generalize Value.agg #[.int .i64 1, .int .i64 (-1), .int .i64 (-2), .int .i64 0] = z14
  generalize Value.agg #[.int .i64 1000, .int .i64 1, .int .i64 0, .int .i64 1] = z15
  generalize Value.agg #[.int .i64 20265, .int .i64 152, .int .i64 0, .int .i64 1] = z16
  generalize Value.agg #[.int .i64 196133, .int .i64 2000, .int .i64 0, .int .i64 1] = z17
  generalize Value.agg #[.int .i64 0, .int .i64 3, .int .i64 0, .int .i64 0] = z18
  generalize Value.agg #[.int .i64 1, .int .i64 1000000, .int .i64 0, .int .i64 1] = z19
  generalize Value.agg #[.int .i64 0, .int .i64 3, .int .i64 (-1), .int .i64 0] = z20
  generalize Value.agg #[.int .i64 1, .int .i64 60000, .int .i64 0, .int .i64 1] = z21
  generalize Value.agg #[.int .i64 1, .int .i64 3600000000, .int .i64 0, .int .i64 1] = z22
  generalize Value.agg #[.int .i64 0, .int .i64 0, .int .i64 (-1), .int .i64 0] = z23
  generalize Value.agg #[.int .i64 1, .int .i64 60, .int .i64 0, .int .i64 1] = z24
  go_loopw [8] (RelF name w4) (fun i _ => 25 - (intOf i).toNat)
  case atStart => exact ⟨0, Nat.zero_le _, rfl, rfl, fun x hx => by simp at hx⟩
  case round =>
    obtain ⟨k, hk, rfl, rfl, hall⟩ := hrel
    have HA := Lib.hid hall
    clear hall
    by_cases hlt : k < 25
    · have hlu : units.length = 25 := rfl
      obtain ⟨u, hku⟩ : ∃ u, units[k]? = some u := ⟨units[k]'(by omega), List.getElem?_eq_getElem _⟩
      obtain ⟨nm, e0, e1, e2, e3, fn, fd, on, od, cd⟩ := u
      by_cases he : nm.toList = name.toList
      · have hf := take_hit hku HA.out he
        have ee : (nm.toList == name.toList) = true := by simp [he]
        have HF := Lib.hid hf
        clear hf he
        have k0 : wr.cell? ⟨w.heap.size + 1, k, none⟩ = some (.string nm) := hR.name hku
        have k5 : wr.cell? ⟨w3.heap.size, k, none⟩ = some (.int .i64 cd) := hR.code hku
        have kd0 : wr.cell? ⟨w1.heap.size, k * 4, none⟩ = some (.int .i64 e0) := hR.dim hku 0 rfl
        have kd1 : wr.cell? ⟨w1.heap.size, k * 4 + 1, none⟩ = some (.int .i64 e1) := hR.dim hku 1 rfl
        have kd2 : wr.cell? ⟨w1.heap.size, k * 4 + 2, none⟩ = some (.int .i64 e2) := hR.dim hku 2 rfl
        have kd3 : wr.cell? ⟨w1.heap.size, k * 4 + 3, none⟩ = some (.int .i64 e3) := hR.dim hku 3 rfl
        have kn0 : wr.cell? ⟨w2.heap.size, k * 4, none⟩ = some (.int .i64 fn) := hR.num hku 0 rfl
        have kn1 : wr.cell? ⟨w2.heap.size, k * 4 + 1, none⟩ = some (.int .i64 fd) := hR.num hku 1 rfl
        have kn2 : wr.cell? ⟨w2.heap.size, k * 4 + 2, none⟩ = some (.int .i64 on) := hR.num hku 2 rfl
        have kn3 : wr.cell? ⟨w2.heap.size, k * 4 + 3, none⟩ = some (.int .i64 od) := hR.num hku 3 rfl
        have HK := Lib.hid hku
        go_wp2_with fail
        clear k0 k5 kd0 kd1 kd2 kd3 kn0 kn1 kn2 kn3
        have hbx := blk_new wr (.cells #[.int .i64 fn, .int .i64 fd, .int .i64 on, .int .i64 od] 106)
        have hR1 := hR.alloc (.cells #[.int .i64 fn, .int .i64 fd, .int .i64 on, .int .i64 od] 106)
        have hC1 := hC.step (below_alloc (Below.refl _ _) (.cells #[.int .i64 fn, .int .i64 fd, .int .i64 on, .int .i64 od] 106))
        obtain ⟨W1, hW1⟩ : ∃ W1, wr.alloc (.cells #[.int .i64 fn, .int .i64 fd, .int .i64 on, .int .i64 od] 106) = W1 := ⟨_, rfl⟩
        rw [hW1] at hbx hR1 hC1
        try rw [hW1]
        clear hW1
        replace hku := HK.out
        clear hR hC
        have hd := below_drew (Below.refl W1.heap.size W1)
        have hC2 := hC1.step hd
        have q0 : W1.cell? ⟨w.heap.size, 0, none⟩ = some (.string ⟨#[]⟩) := blk_cell hC1.b1 0
        have qf0 : W1.frozen? ⟨w.heap.size, 0, none⟩ = false := blk_frozen hC1.b1 0
        have q1 : W1.cell? ⟨w.heap.size, 1, none⟩ = some (.int .i64 0) := blk_cell hC1.b1 1
        have qf1 : W1.frozen? ⟨w.heap.size, 1, none⟩ = false := blk_frozen hC1.b1 1
        have q2 : W1.cell? ⟨w.heap.size, 2, none⟩ = some (.int .i64 0) := blk_cell hC1.b1 2
        have qf2 : W1.frozen? ⟨w.heap.size, 2, none⟩ = false := blk_frozen hC1.b1 2
        have q3 : W1.cell? ⟨w.heap.size, 3, none⟩ = some (.int .i64 0) := blk_cell hC1.b1 3
        have qf3 : W1.frozen? ⟨w.heap.size, 3, none⟩ = false := blk_frozen hC1.b1 3
        have q4 : W1.cell? ⟨w.heap.size, 4, none⟩ = some (.int .i64 0) := blk_cell hC1.b1 4
        have qf4 : W1.frozen? ⟨w.heap.size, 4, none⟩ = false := blk_frozen hC1.b1 4
        have q5 : W1.cell? ⟨w.heap.size, 5, none⟩ = some (.int .i64 0) := blk_cell hC1.b1 5
        have qf5 : W1.frozen? ⟨w.heap.size, 5, none⟩ = false := blk_frozen hC1.b1 5
        have q6 : W1.cell? ⟨w.heap.size, 6, none⟩ = some (.int .i64 0) := blk_cell hC1.b1 6
        have qf6 : W1.frozen? ⟨w.heap.size, 6, none⟩ = false := blk_frozen hC1.b1 6
        have q7 : W1.cell? ⟨w.heap.size, 7, none⟩ = some (.int .i64 0) := blk_cell hC1.b1 7
        have qf7 : W1.frozen? ⟨w.heap.size, 7, none⟩ = false := blk_frozen hC1.b1 7
        have q8 : W1.cell? ⟨w.heap.size, 8, none⟩ = some (.int .i64 0) := blk_cell hC1.b1 8
        have qf8 : W1.frozen? ⟨w.heap.size, 8, none⟩ = false := blk_frozen hC1.b1 8
        have q9 : W1.cell? ⟨w.heap.size, 9, none⟩ = some (.int .i64 0) := blk_cell hC1.b1 9
        have qf9 : W1.frozen? ⟨w.heap.size, 9, none⟩ = false := blk_frozen hC1.b1 9
        refine start_ (n := 22) (S := fun wx => (Rows wx (w.heap.size + 1) w1.heap.size w2.heap.size w3.heap.size ∧ wx.heap[wr.heap.size]? = some (.cells #[.int .i64 fn, .int .i64 fd, .int .i64 on, .int .i64 od] 106 (0, 0))) ∧ B1 w wx (.cells #[.string ⟨#[]⟩, .int .i64 0, .int .i64 0, .int .i64 0, .int .i64 0, .int .i64 0, .int .i64 0, .int .i64 0, .int .i64 0, .int .i64 0] 48)) (ds := [20]) #[false, false, false, false, false, false, false, false, false, false, false, false, false, false, false, false, false, false, false, false, false, false] (by kernel_rfl) rfl rfl ⟨⟨hR1.step hd, blk_below hbx hd⟩, hC1.step hd⟩ (fun hHeld => ?_)
        refine pure_ (i := 0) (N := some 80) (v := ?_) (a' := ?_) #[true, false, false, false, false, false, false, false, false, false, false, false, false, false, false, false, false, false, false, false, false, false] rfl rfl (by kernel_rfl) (fun _ _ _ h => h) (Or.inl ⟨by rfl, ?_⟩) ?_ ?_
        rotate_left
        · intro w'
          go_simp
          try with_reducible rfl
        rotate_left
        · simp only [Act.put, List.setIfInBounds_toArray, List.set_cons_zero, List.set_cons_succ, i64_w, i32_w]
          rfl
        refine pure_ (i := 1) (N := some 81) (v := ?_) (a' := ?_) #[true, true, false, false, false, false, false, false, false, false, false, false, false, false, false, false, false, false, false, false, false, false] rfl rfl (by kernel_rfl) (fun _ _ _ h => h) (Or.inl ⟨by rfl, ?_⟩) ?_ ?_
        rotate_left
        · intro w'
          go_simp
          try with_reducible rfl
        rotate_left
        · simp only [Act.put, List.setIfInBounds_toArray, List.set_cons_zero, List.set_cons_succ, i64_w, i32_w]
          rfl
        refine pure_ (i := 2) (N := some 82) (v := ?_) (a' := ?_) #[true, true, true, false, false, false, false, false, false, false, false, false, false, false, false, false, false, false, false, false, false, false] rfl rfl (by kernel_rfl) (fun _ _ _ h => h) (Or.inl ⟨by rfl, ?_⟩) ?_ ?_
        rotate_left
        · intro w'
          go_simp
          try with_reducible rfl
        rotate_left
        · simp only [Act.put, List.setIfInBounds_toArray, List.set_cons_zero, List.set_cons_succ, i64_w, i32_w]
          rfl
        refine pure_ (i := 3) (N := some 83) (v := ?_) (a' := ?_) #[true, true, true, true, false, false, false, false, false, false, false, false, false, false, false, false, false, false, false, false, false, false] rfl rfl (by kernel_rfl) (fun _ _ _ h => h) (Or.inl ⟨by rfl, ?_⟩) ?_ ?_
        rotate_left
        · intro w'
          go_simp
          try with_reducible rfl
        rotate_left
        · simp only [Act.put, List.setIfInBounds_toArray, List.set_cons_zero, List.set_cons_succ, i64_w, i32_w]
          rfl
        refine take_ (i := 4) (N := some 84) (v := ?_) (a' := ?_) #[true, true, true, true, true, false, false, false, false, false, false, false, false, false, false, false, false, false, false, false, false, false] rfl rfl (by kernel_rfl) (fun _ _ _ h => h) (Or.inl ⟨by rfl, ?_⟩) hHeld ?_ ?_
        rotate_left
        · rintro w' ⟨⟨hr_, hb_⟩, hc_⟩
          have k0 : w'.cell? ⟨w.heap.size + 1, k, none⟩ = some (.string nm) := hr_.name hku
          have k5 : w'.cell? ⟨w3.heap.size, k, none⟩ = some (.int .i64 cd) := hr_.code hku
          have kd0 : w'.cell? ⟨w1.heap.size, k * 4, none⟩ = some (.int .i64 e0) := hr_.dim hku 0 rfl
          have kd1 : w'.cell? ⟨w1.heap.size, k * 4 + 1, none⟩ = some (.int .i64 e1) := hr_.dim hku 1 rfl
          have kd2 : w'.cell? ⟨w1.heap.size, k * 4 + 2, none⟩ = some (.int .i64 e2) := hr_.dim hku 2 rfl
          have kd3 : w'.cell? ⟨w1.heap.size, k * 4 + 3, none⟩ = some (.int .i64 e3) := hr_.dim hku 3 rfl
          have kn0 : w'.cell? ⟨w2.heap.size, k * 4, none⟩ = some (.int .i64 fn) := hr_.num hku 0 rfl
          have kn1 : w'.cell? ⟨w2.heap.size, k * 4 + 1, none⟩ = some (.int .i64 fd) := hr_.num hku 1 rfl
          have kn2 : w'.cell? ⟨w2.heap.size, k * 4 + 2, none⟩ = some (.int .i64 on) := hr_.num hku 2 rfl
          have kn3 : w'.cell? ⟨w2.heap.size, k * 4 + 3, none⟩ = some (.int .i64 od) := hr_.num hku 3 rfl
          have x0 : w'.cell? ⟨wr.heap.size, 0, none⟩ = some (.int .i64 fn) := blk_cell hb_ 0
          have x1 : w'.cell? ⟨wr.heap.size, 1, none⟩ = some (.int .i64 fd) := blk_cell hb_ 1
          have x2 : w'.cell? ⟨wr.heap.size, 2, none⟩ = some (.int .i64 on) := blk_cell hb_ 2
          have x3 : w'.cell? ⟨wr.heap.size, 3, none⟩ = some (.int .i64 od) := blk_cell hb_ 3
          go_simp
          with_reducible rfl
        rotate_left
        · simp only [Act.put, List.setIfInBounds_toArray, List.set_cons_zero, List.set_cons_succ, i64_w, i32_w]
          rfl
        refine pure_ (i := 5) (N := some 85) (v := ?_) (a' := ?_) #[true, true, true, true, true, true, false, false, false, false, false, false, false, false, false, false, false, false, false, false, false, false] rfl rfl (by kernel_rfl) (fun _ _ _ h => h) (Or.inl ⟨by rfl, ?_⟩) ?_ ?_
        rotate_left
        · intro w'
          go_simp
          try with_reducible rfl
        rotate_left
        · simp only [Act.put, List.setIfInBounds_toArray, List.set_cons_zero, List.set_cons_succ, i64_w, i32_w]
          rfl
        refine take_ (i := 6) (N := some 86) (v := ?_) (a' := ?_) #[true, true, true, true, true, true, true, false, false, false, false, false, false, false, false, false, false, false, false, false, false, false] rfl rfl (by kernel_rfl) (fun _ _ _ h => h) (Or.inl ⟨by rfl, ?_⟩) hHeld ?_ ?_
        rotate_left
        · rintro w' ⟨⟨hr_, hb_⟩, hc_⟩
          have k0 : w'.cell? ⟨w.heap.size + 1, k, none⟩ = some (.string nm) := hr_.name hku
          have k5 : w'.cell? ⟨w3.heap.size, k, none⟩ = some (.int .i64 cd) := hr_.code hku
          have kd0 : w'.cell? ⟨w1.heap.size, k * 4, none⟩ = some (.int .i64 e0) := hr_.dim hku 0 rfl
          have kd1 : w'.cell? ⟨w1.heap.size, k * 4 + 1, none⟩ = some (.int .i64 e1) := hr_.dim hku 1 rfl
          have kd2 : w'.cell? ⟨w1.heap.size, k * 4 + 2, none⟩ = some (.int .i64 e2) := hr_.dim hku 2 rfl
          have kd3 : w'.cell? ⟨w1.heap.size, k * 4 + 3, none⟩ = some (.int .i64 e3) := hr_.dim hku 3 rfl
          have kn0 : w'.cell? ⟨w2.heap.size, k * 4, none⟩ = some (.int .i64 fn) := hr_.num hku 0 rfl
          have kn1 : w'.cell? ⟨w2.heap.size, k * 4 + 1, none⟩ = some (.int .i64 fd) := hr_.num hku 1 rfl
          have kn2 : w'.cell? ⟨w2.heap.size, k * 4 + 2, none⟩ = some (.int .i64 on) := hr_.num hku 2 rfl
          have kn3 : w'.cell? ⟨w2.heap.size, k * 4 + 3, none⟩ = some (.int .i64 od) := hr_.num hku 3 rfl
          have x0 : w'.cell? ⟨wr.heap.size, 0, none⟩ = some (.int .i64 fn) := blk_cell hb_ 0
          have x1 : w'.cell? ⟨wr.heap.size, 1, none⟩ = some (.int .i64 fd) := blk_cell hb_ 1
          have x2 : w'.cell? ⟨wr.heap.size, 2, none⟩ = some (.int .i64 on) := blk_cell hb_ 2
          have x3 : w'.cell? ⟨wr.heap.size, 3, none⟩ = some (.int .i64 od) := blk_cell hb_ 3
          go_simp
          with_reducible rfl
        rotate_left
        · simp only [Act.put, List.setIfInBounds_toArray, List.set_cons_zero, List.set_cons_succ, i64_w, i32_w]
          rfl
        refine pure_ (i := 7) (N := some 87) (v := ?_) (a' := ?_) #[true, true, true, true, true, true, true, true, false, false, false, false, false, false, false, false, false, false, false, false, false, false] rfl rfl (by kernel_rfl) (fun _ _ _ h => h) (Or.inl ⟨by rfl, ?_⟩) ?_ ?_
        rotate_left
        · intro w'
          go_simp
          try with_reducible rfl
        rotate_left
        · simp only [Act.put, List.setIfInBounds_toArray, List.set_cons_zero, List.set_cons_succ, i64_w, i32_w]
          rfl
        refine take_ (i := 8) (N := some 88) (v := ?_) (a' := ?_) #[true, true, true, true, true, true, true, true, true, false, false, false, false, false, false, false, false, false, false, false, false, false] rfl rfl (by kernel_rfl) (fun _ _ _ h => h) (Or.inl ⟨by rfl, ?_⟩) hHeld ?_ ?_
        rotate_left
        · rintro w' ⟨⟨hr_, hb_⟩, hc_⟩
          have k0 : w'.cell? ⟨w.heap.size + 1, k, none⟩ = some (.string nm) := hr_.name hku
          have k5 : w'.cell? ⟨w3.heap.size, k, none⟩ = some (.int .i64 cd) := hr_.code hku
          have kd0 : w'.cell? ⟨w1.heap.size, k * 4, none⟩ = some (.int .i64 e0) := hr_.dim hku 0 rfl
          have kd1 : w'.cell? ⟨w1.heap.size, k * 4 + 1, none⟩ = some (.int .i64 e1) := hr_.dim hku 1 rfl
          have kd2 : w'.cell? ⟨w1.heap.size, k * 4 + 2, none⟩ = some (.int .i64 e2) := hr_.dim hku 2 rfl
          have kd3 : w'.cell? ⟨w1.heap.size, k * 4 + 3, none⟩ = some (.int .i64 e3) := hr_.dim hku 3 rfl
          have kn0 : w'.cell? ⟨w2.heap.size, k * 4, none⟩ = some (.int .i64 fn) := hr_.num hku 0 rfl
          have kn1 : w'.cell? ⟨w2.heap.size, k * 4 + 1, none⟩ = some (.int .i64 fd) := hr_.num hku 1 rfl
          have kn2 : w'.cell? ⟨w2.heap.size, k * 4 + 2, none⟩ = some (.int .i64 on) := hr_.num hku 2 rfl
          have kn3 : w'.cell? ⟨w2.heap.size, k * 4 + 3, none⟩ = some (.int .i64 od) := hr_.num hku 3 rfl
          have x0 : w'.cell? ⟨wr.heap.size, 0, none⟩ = some (.int .i64 fn) := blk_cell hb_ 0
          have x1 : w'.cell? ⟨wr.heap.size, 1, none⟩ = some (.int .i64 fd) := blk_cell hb_ 1
          have x2 : w'.cell? ⟨wr.heap.size, 2, none⟩ = some (.int .i64 on) := blk_cell hb_ 2
          have x3 : w'.cell? ⟨wr.heap.size, 3, none⟩ = some (.int .i64 od) := blk_cell hb_ 3
          go_simp
          with_reducible rfl
        rotate_left
        · simp only [Act.put, List.setIfInBounds_toArray, List.set_cons_zero, List.set_cons_succ, i64_w, i32_w]
          rfl
        refine pure_ (i := 9) (N := some 89) (v := ?_) (a' := ?_) #[true, true, true, true, true, true, true, true, true, true, false, false, false, false, false, false, false, false, false, false, false, false] rfl rfl (by kernel_rfl) (fun _ _ _ h => h) (Or.inl ⟨by rfl, ?_⟩) ?_ ?_
        rotate_left
        · intro w'
          go_simp
          try with_reducible rfl
        rotate_left
        · simp only [Act.put, List.setIfInBounds_toArray, List.set_cons_zero, List.set_cons_succ, i64_w, i32_w]
          rfl
        refine pure_ (i := 10) (N := some 90) (v := ?_) (a' := ?_) #[true, true, true, true, true, true, true, true, true, true, true, false, false, false, false, false, false, false, false, false, false, false] rfl rfl (by kernel_rfl) (fun _ _ _ h => h) (Or.inl ⟨by rfl, ?_⟩) ?_ ?_
        rotate_left
        · intro w'
          go_simp
          try with_reducible rfl
        rotate_left
        · simp only [Act.put, List.setIfInBounds_toArray, List.set_cons_zero, List.set_cons_succ, i64_w, i32_w]
          rfl
        refine take_ (i := 11) (N := some 91) (v := ?_) (a' := ?_) #[true, true, true, true, true, true, true, true, true, true, true, true, false, false, false, false, false, false, false, false, false, false] rfl rfl (by kernel_rfl) (fun _ _ _ h => h) (Or.inl ⟨by rfl, ?_⟩) hHeld ?_ ?_
        rotate_left
        · rintro w' ⟨⟨hr_, hb_⟩, hc_⟩
          have k0 : w'.cell? ⟨w.heap.size + 1, k, none⟩ = some (.string nm) := hr_.name hku
          have k5 : w'.cell? ⟨w3.heap.size, k, none⟩ = some (.int .i64 cd) := hr_.code hku
          have kd0 : w'.cell? ⟨w1.heap.size, k * 4, none⟩ = some (.int .i64 e0) := hr_.dim hku 0 rfl
          have kd1 : w'.cell? ⟨w1.heap.size, k * 4 + 1, none⟩ = some (.int .i64 e1) := hr_.dim hku 1 rfl
          have kd2 : w'.cell? ⟨w1.heap.size, k * 4 + 2, none⟩ = some (.int .i64 e2) := hr_.dim hku 2 rfl
          have kd3 : w'.cell? ⟨w1.heap.size, k * 4 + 3, none⟩ = some (.int .i64 e3) := hr_.dim hku 3 rfl
          have kn0 : w'.cell? ⟨w2.heap.size, k * 4, none⟩ = some (.int .i64 fn) := hr_.num hku 0 rfl
          have kn1 : w'.cell? ⟨w2.heap.size, k * 4 + 1, none⟩ = some (.int .i64 fd) := hr_.num hku 1 rfl
          have kn2 : w'.cell? ⟨w2.heap.size, k * 4 + 2, none⟩ = some (.int .i64 on) := hr_.num hku 2 rfl
          have kn3 : w'.cell? ⟨w2.heap.size, k * 4 + 3, none⟩ = some (.int .i64 od) := hr_.num hku 3 rfl
          have x0 : w'.cell? ⟨wr.heap.size, 0, none⟩ = some (.int .i64 fn) := blk_cell hb_ 0
          have x1 : w'.cell? ⟨wr.heap.size, 1, none⟩ = some (.int .i64 fd) := blk_cell hb_ 1
          have x2 : w'.cell? ⟨wr.heap.size, 2, none⟩ = some (.int .i64 on) := blk_cell hb_ 2
          have x3 : w'.cell? ⟨wr.heap.size, 3, none⟩ = some (.int .i64 od) := blk_cell hb_ 3
          go_simp
          with_reducible rfl
        rotate_left
        · simp only [Act.put, List.setIfInBounds_toArray, List.set_cons_zero, List.set_cons_succ, i64_w, i32_w]
          rfl
        refine pure_ (i := 12) (N := some 92) (v := ?_) (a' := ?_) #[true, true, true, true, true, true, true, true, true, true, true, true, true, false, false, false, false, false, false, false, false, false] rfl rfl (by kernel_rfl) (fun _ _ _ h => h) (Or.inl ⟨by rfl, ?_⟩) ?_ ?_
        rotate_left
        · intro w'
          go_simp
          try with_reducible rfl
        rotate_left
        · simp only [Act.put, List.setIfInBounds_toArray, List.set_cons_zero, List.set_cons_succ, i64_w, i32_w]
          rfl
        refine take_ (i := 13) (N := some 93) (v := ?_) (a' := ?_) #[true, true, true, true, true, true, true, true, true, true, true, true, true, true, false, false, false, false, false, false, false, false] rfl rfl (by kernel_rfl) (fun _ _ _ h => h) (Or.inl ⟨by rfl, ?_⟩) hHeld ?_ ?_
        rotate_left
        · rintro w' ⟨⟨hr_, hb_⟩, hc_⟩
          have k0 : w'.cell? ⟨w.heap.size + 1, k, none⟩ = some (.string nm) := hr_.name hku
          have k5 : w'.cell? ⟨w3.heap.size, k, none⟩ = some (.int .i64 cd) := hr_.code hku
          have kd0 : w'.cell? ⟨w1.heap.size, k * 4, none⟩ = some (.int .i64 e0) := hr_.dim hku 0 rfl
          have kd1 : w'.cell? ⟨w1.heap.size, k * 4 + 1, none⟩ = some (.int .i64 e1) := hr_.dim hku 1 rfl
          have kd2 : w'.cell? ⟨w1.heap.size, k * 4 + 2, none⟩ = some (.int .i64 e2) := hr_.dim hku 2 rfl
          have kd3 : w'.cell? ⟨w1.heap.size, k * 4 + 3, none⟩ = some (.int .i64 e3) := hr_.dim hku 3 rfl
          have kn0 : w'.cell? ⟨w2.heap.size, k * 4, none⟩ = some (.int .i64 fn) := hr_.num hku 0 rfl
          have kn1 : w'.cell? ⟨w2.heap.size, k * 4 + 1, none⟩ = some (.int .i64 fd) := hr_.num hku 1 rfl
          have kn2 : w'.cell? ⟨w2.heap.size, k * 4 + 2, none⟩ = some (.int .i64 on) := hr_.num hku 2 rfl
          have kn3 : w'.cell? ⟨w2.heap.size, k * 4 + 3, none⟩ = some (.int .i64 od) := hr_.num hku 3 rfl
          have x0 : w'.cell? ⟨wr.heap.size, 0, none⟩ = some (.int .i64 fn) := blk_cell hb_ 0
          have x1 : w'.cell? ⟨wr.heap.size, 1, none⟩ = some (.int .i64 fd) := blk_cell hb_ 1
          have x2 : w'.cell? ⟨wr.heap.size, 2, none⟩ = some (.int .i64 on) := blk_cell hb_ 2
          have x3 : w'.cell? ⟨wr.heap.size, 3, none⟩ = some (.int .i64 od) := blk_cell hb_ 3
          go_simp
          with_reducible rfl
        rotate_left
        · simp only [Act.put, List.setIfInBounds_toArray, List.set_cons_zero, List.set_cons_succ, i64_w, i32_w]
          rfl
        refine pure_ (i := 14) (N := some 94) (v := ?_) (a' := ?_) #[true, true, true, true, true, true, true, true, true, true, true, true, true, true, true, false, false, false, false, false, false, false] rfl rfl (by kernel_rfl) (fun _ _ _ h => h) (Or.inl ⟨by rfl, ?_⟩) ?_ ?_
        rotate_left
        · intro w'
          go_simp
          try with_reducible rfl
        rotate_left
        · simp only [Act.put, List.setIfInBounds_toArray, List.set_cons_zero, List.set_cons_succ, i64_w, i32_w]
          rfl
        refine pure_ (i := 15) (N := some 95) (v := ?_) (a' := ?_) #[true, true, true, true, true, true, true, true, true, true, true, true, true, true, true, true, false, false, false, false, false, false] rfl rfl (by kernel_rfl) (fun _ _ _ h => h) (Or.inl ⟨by rfl, ?_⟩) ?_ ?_
        rotate_left
        · intro w'
          go_simp
          try with_reducible rfl
        rotate_left
        · simp only [Act.put, List.setIfInBounds_toArray, List.set_cons_zero, List.set_cons_succ, i64_w, i32_w]
          rfl
        refine pure_ (i := 16) (N := some 96) (v := ?_) (a' := ?_) #[true, true, true, true, true, true, true, true, true, true, true, true, true, true, true, true, true, false, false, false, false, false] rfl rfl (by kernel_rfl) (fun _ _ _ h => h) (Or.inl ⟨by rfl, ?_⟩) ?_ ?_
        rotate_left
        · intro w'
          go_simp
          try with_reducible rfl
        rotate_left
        · simp only [Act.put, List.setIfInBounds_toArray, List.set_cons_zero, List.set_cons_succ, i64_w, i32_w]
          rfl
        refine pure_ (i := 17) (N := some 97) (v := ?_) (a' := ?_) #[true, true, true, true, true, true, true, true, true, true, true, true, true, true, true, true, true, true, false, false, false, false] rfl rfl (by kernel_rfl) (fun _ _ _ h => h) (Or.inl ⟨by rfl, ?_⟩) ?_ ?_
        rotate_left
        · intro w'
          go_simp
          try with_reducible rfl
        rotate_left
        · simp only [Act.put, List.setIfInBounds_toArray, List.set_cons_zero, List.set_cons_succ, i64_w, i32_w]
          rfl
        refine take_ (i := 18) (N := some 98) (v := ?_) (a' := ?_) #[true, true, true, true, true, true, true, true, true, true, true, true, true, true, true, true, true, true, true, false, false, false] rfl rfl (by kernel_rfl) (fun _ _ _ h => h) (Or.inl ⟨by rfl, ?_⟩) hHeld ?_ ?_
        rotate_left
        · rintro w' ⟨⟨hr_, hb_⟩, hc_⟩
          have k0 : w'.cell? ⟨w.heap.size + 1, k, none⟩ = some (.string nm) := hr_.name hku
          have k5 : w'.cell? ⟨w3.heap.size, k, none⟩ = some (.int .i64 cd) := hr_.code hku
          have kd0 : w'.cell? ⟨w1.heap.size, k * 4, none⟩ = some (.int .i64 e0) := hr_.dim hku 0 rfl
          have kd1 : w'.cell? ⟨w1.heap.size, k * 4 + 1, none⟩ = some (.int .i64 e1) := hr_.dim hku 1 rfl
          have kd2 : w'.cell? ⟨w1.heap.size, k * 4 + 2, none⟩ = some (.int .i64 e2) := hr_.dim hku 2 rfl
          have kd3 : w'.cell? ⟨w1.heap.size, k * 4 + 3, none⟩ = some (.int .i64 e3) := hr_.dim hku 3 rfl
          have kn0 : w'.cell? ⟨w2.heap.size, k * 4, none⟩ = some (.int .i64 fn) := hr_.num hku 0 rfl
          have kn1 : w'.cell? ⟨w2.heap.size, k * 4 + 1, none⟩ = some (.int .i64 fd) := hr_.num hku 1 rfl
          have kn2 : w'.cell? ⟨w2.heap.size, k * 4 + 2, none⟩ = some (.int .i64 on) := hr_.num hku 2 rfl
          have kn3 : w'.cell? ⟨w2.heap.size, k * 4 + 3, none⟩ = some (.int .i64 od) := hr_.num hku 3 rfl
          have x0 : w'.cell? ⟨wr.heap.size, 0, none⟩ = some (.int .i64 fn) := blk_cell hb_ 0
          have x1 : w'.cell? ⟨wr.heap.size, 1, none⟩ = some (.int .i64 fd) := blk_cell hb_ 1
          have x2 : w'.cell? ⟨wr.heap.size, 2, none⟩ = some (.int .i64 on) := blk_cell hb_ 2
          have x3 : w'.cell? ⟨wr.heap.size, 3, none⟩ = some (.int .i64 od) := blk_cell hb_ 3
          go_simp
          with_reducible rfl
        rotate_left
        · simp only [Act.put, List.setIfInBounds_toArray, List.set_cons_zero, List.set_cons_succ, i64_w, i32_w]
          rfl
        refine pure_ (i := 19) (N := some 99) (v := ?_) (a' := ?_) #[true, true, true, true, true, true, true, true, true, true, true, true, true, true, true, true, true, true, true, true, false, false] rfl rfl (by kernel_rfl) (fun _ _ _ h => h) (Or.inl ⟨by rfl, ?_⟩) ?_ ?_
        rotate_left
        · intro w'
          go_simp
          try with_reducible rfl
        rotate_left
        · simp only [Act.put, List.setIfInBounds_toArray, List.set_cons_zero, List.set_cons_succ, i64_w, i32_w]
          rfl
        refine last_ (i := 20) (N := none) #[true, true, true, true, true, true, true, true, true, true, true, true, true, true, true, true, true, true, true, true, true, false] rfl rfl (by kernel_rfl) (by decide) (fun K hK => ?_)
        refine skip_ (w1 := (((((((((((((((((((((W1).setCell ⟨w.heap.size, 0, none⟩ (.string name))).setCell ⟨w.heap.size, 1, none⟩ (.int .i64 e0))).setCell ⟨w.heap.size, 2, none⟩ (.int .i64 e1))).setCell ⟨w.heap.size, 3, none⟩ (.int .i64 e2))).setCell ⟨w.heap.size, 4, none⟩ (.int .i64 e3))).setCell ⟨w.heap.size, 5, none⟩ (.int .i64 fn))).setCell ⟨w.heap.size, 6, none⟩ (.int .i64 fd))).setCell ⟨w.heap.size, 7, none⟩ (.int .i64 on))).setCell ⟨w.heap.size, 8, none⟩ (.int .i64 od))).setCell ⟨w.heap.size, 9, none⟩ (.int .i64 cd))).drew) (by rfl) rfl ?_ ?_
        · first
          | (go_simp; done)
          | (go_simp; rfl)
        refine hK.out _ _ ?_
        clear hK K
        refine norm_ (a' := ?_) ?_ ?_
        rotate_left
        · rfl
        refine pure_ (i := 21) (N := some 3) (v := ?_) (a' := ?_) #[true, true, true, true, true, true, true, true, true, true, true, true, true, true, true, true, true, true, true, true, true, true] rfl rfl (by kernel_rfl) (fun _ _ _ h => h) (Or.inl ⟨by rfl, ?_⟩) ?_ ?_
        rotate_left
        · intro w'
          go_simp
          try with_reducible rfl
        rotate_left
        · simp only [Act.put, List.setIfInBounds_toArray, List.set_cons_zero, List.set_cons_succ, i64_w, i32_w]
          rfl
        refine done_ (by kernel_rfl) ?_
        clear hd hR1 hbx hku hHeld
        clear q0 qf0 q1 qf1 q2 qf2 q3 qf3 q4 qf4 q5 qf5 q6 qf6 q7 qf7 q8 qf8 q9 qf9
        have k1 := put10_blk ⟨name, e0, e1, e2, e3, fn, fd, on, od, cd⟩ hC1.b1
        have kB := put10_below ⟨name, e0, e1, e2, e3, fn, fd, on, od, cd⟩ hC1.be (Nat.le_refl w.heap.size)
        obtain ⟨W2, hW2⟩ : ∃ W2, W2 = (put10 W1 w.heap.size ⟨name, e0, e1, e2, e3, fn, fd, on, od, cd⟩).drew := ⟨_, rfl⟩
        have k2 : W2.heap[w.heap.size]? = some (.cells #[.string name, .int .i64 e0, .int .i64 e1, .int .i64 e2, .int .i64 e3, .int .i64 fn, .int .i64 fd, .int .i64 on, .int .i64 od, .int .i64 cd] 48 (0, 0)) := by rw [hW2]; exact blk_below k1 (below_drew (Below.refl _ _))
        have hB_ : Below w.heap.size w W2 := by rw [hW2]; exact below_drew kB
        rw [show (((((((((((((((((((((W1).setCell ⟨w.heap.size, 0, none⟩ (.string name))).setCell ⟨w.heap.size, 1, none⟩ (.int .i64 e0))).setCell ⟨w.heap.size, 2, none⟩ (.int .i64 e1))).setCell ⟨w.heap.size, 3, none⟩ (.int .i64 e2))).setCell ⟨w.heap.size, 4, none⟩ (.int .i64 e3))).setCell ⟨w.heap.size, 5, none⟩ (.int .i64 fn))).setCell ⟨w.heap.size, 6, none⟩ (.int .i64 fd))).setCell ⟨w.heap.size, 7, none⟩ (.int .i64 on))).setCell ⟨w.heap.size, 8, none⟩ (.int .i64 od))).setCell ⟨w.heap.size, 9, none⟩ (.int .i64 cd))).drew = W2 from hW2.symm]
        clear hW2 k1 kB hC1 hC2
        have s0 : W2.cell? ⟨w.heap.size, 0, none⟩ = some (.string name) := blk_cell k2 0
        have s1 : W2.cell? ⟨w.heap.size, 1, none⟩ = some (.int .i64 e0) := blk_cell k2 1
        have s2 : W2.cell? ⟨w.heap.size, 2, none⟩ = some (.int .i64 e1) := blk_cell k2 2
        have s3 : W2.cell? ⟨w.heap.size, 3, none⟩ = some (.int .i64 e2) := blk_cell k2 3
        have s4 : W2.cell? ⟨w.heap.size, 4, none⟩ = some (.int .i64 e3) := blk_cell k2 4
        have s5 : W2.cell? ⟨w.heap.size, 5, none⟩ = some (.int .i64 fn) := blk_cell k2 5
        have s6 : W2.cell? ⟨w.heap.size, 6, none⟩ = some (.int .i64 fd) := blk_cell k2 6
        have s7 : W2.cell? ⟨w.heap.size, 7, none⟩ = some (.int .i64 on) := blk_cell k2 7
        have s8 : W2.cell? ⟨w.heap.size, 8, none⟩ = some (.int .i64 od) := blk_cell k2 8
        have s9 : W2.cell? ⟨w.heap.size, 9, none⟩ = some (.int .i64 cd) := blk_cell k2 9
        go_wp2_with fail
        refine bodyPost_ret (by simp [results, Try.results30, go_sem, s0, s1, s2, s3, s4, s5, s6, s7, s8, s9]; try rfl) rfl ?_
        have hr : refRow name = ⟨name, e0, e1, e2, e3, fn, fd, on, od, cd⟩ := by unfold refRow; rw [HF.out]
        rw [hr, HF.out]
        exact ⟨rfl, hB_⟩
      · have ee : (nm.toList == name.toList) = false := by simp [he]
        have hm := take_more hku HA.out he
        have HM := Lib.hid hm
        have k0 : wr.cell? ⟨w.heap.size + 1, k, none⟩ = some (.string nm) := hR.name hku
        clear hm he
        go_wp2_with fail
        refine ⟨⟨k + 1, by omega, by simp, rfl, HM.out⟩, ?_⟩
        simp [intOf]
        omega
    · obtain rfl : k = 25 := by omega
      have hf : find name = none := find_miss (fun x hx => HA.out x (by rw [List.take_of_length_le (by decide)]; exact hx))
      have HF := Lib.hid hf
      clear hf
      have c0 : wr.cell? ⟨w.heap.size, 0, none⟩ = some (.string ⟨#[]⟩) := blk_cell hC.b1 0
      have cf0 : wr.frozen? ⟨w.heap.size, 0, none⟩ = false := blk_frozen hC.b1 0
      have c1 : wr.cell? ⟨w.heap.size, 1, none⟩ = some (.int .i64 0) := blk_cell hC.b1 1
      have cf1 : wr.frozen? ⟨w.heap.size, 1, none⟩ = false := blk_frozen hC.b1 1
      have c2 : wr.cell? ⟨w.heap.size, 2, none⟩ = some (.int .i64 0) := blk_cell hC.b1 2
      have cf2 : wr.frozen? ⟨w.heap.size, 2, none⟩ = false := blk_frozen hC.b1 2
      have c3 : wr.cell? ⟨w.heap.size, 3, none⟩ = some (.int .i64 0) := blk_cell hC.b1 3
      have cf3 : wr.frozen? ⟨w.heap.size, 3, none⟩ = false := blk_frozen hC.b1 3
      have c4 : wr.cell? ⟨w.heap.size, 4, none⟩ = some (.int .i64 0) := blk_cell hC.b1 4
      have cf4 : wr.frozen? ⟨w.heap.size, 4, none⟩ = false := blk_frozen hC.b1 4
      have c5 : wr.cell? ⟨w.heap.size, 5, none⟩ = some (.int .i64 0) := blk_cell hC.b1 5
      have cf5 : wr.frozen? ⟨w.heap.size, 5, none⟩ = false := blk_frozen hC.b1 5
      have c6 : wr.cell? ⟨w.heap.size, 6, none⟩ = some (.int .i64 0) := blk_cell hC.b1 6
      have cf6 : wr.frozen? ⟨w.heap.size, 6, none⟩ = false := blk_frozen hC.b1 6
      have c7 : wr.cell? ⟨w.heap.size, 7, none⟩ = some (.int .i64 0) := blk_cell hC.b1 7
      have cf7 : wr.frozen? ⟨w.heap.size, 7, none⟩ = false := blk_frozen hC.b1 7
      have c8 : wr.cell? ⟨w.heap.size, 8, none⟩ = some (.int .i64 0) := blk_cell hC.b1 8
      have cf8 : wr.frozen? ⟨w.heap.size, 8, none⟩ = false := blk_frozen hC.b1 8
      have c9 : wr.cell? ⟨w.heap.size, 9, none⟩ = some (.int .i64 0) := blk_cell hC.b1 9
      have cf9 : wr.frozen? ⟨w.heap.size, 9, none⟩ = false := blk_frozen hC.b1 9
      have hx_ := hC.b1
      have d_0 : wr.cell? ⟨w.heap.size, 0, none⟩ = some (.string ⟨#[]⟩) := blk_cell hx_ 0
      have df_0 : wr.frozen? ⟨w.heap.size, 0, none⟩ = false := blk_frozen hx_ 0
      have d_1 : wr.cell? ⟨w.heap.size, 1, none⟩ = some (.int .i64 0) := blk_cell hx_ 1
      have df_1 : wr.frozen? ⟨w.heap.size, 1, none⟩ = false := blk_frozen hx_ 1
      have d_2 : wr.cell? ⟨w.heap.size, 2, none⟩ = some (.int .i64 0) := blk_cell hx_ 2
      have df_2 : wr.frozen? ⟨w.heap.size, 2, none⟩ = false := blk_frozen hx_ 2
      have d_3 : wr.cell? ⟨w.heap.size, 3, none⟩ = some (.int .i64 0) := blk_cell hx_ 3
      have df_3 : wr.frozen? ⟨w.heap.size, 3, none⟩ = false := blk_frozen hx_ 3
      have d_4 : wr.cell? ⟨w.heap.size, 4, none⟩ = some (.int .i64 0) := blk_cell hx_ 4
      have df_4 : wr.frozen? ⟨w.heap.size, 4, none⟩ = false := blk_frozen hx_ 4
      have d_5 : wr.cell? ⟨w.heap.size, 5, none⟩ = some (.int .i64 0) := blk_cell hx_ 5
      have df_5 : wr.frozen? ⟨w.heap.size, 5, none⟩ = false := blk_frozen hx_ 5
      have d_6 : wr.cell? ⟨w.heap.size, 6, none⟩ = some (.int .i64 0) := blk_cell hx_ 6
      have df_6 : wr.frozen? ⟨w.heap.size, 6, none⟩ = false := blk_frozen hx_ 6
      have d_7 : wr.cell? ⟨w.heap.size, 7, none⟩ = some (.int .i64 0) := blk_cell hx_ 7
      have df_7 : wr.frozen? ⟨w.heap.size, 7, none⟩ = false := blk_frozen hx_ 7
      have d_8 : wr.cell? ⟨w.heap.size, 8, none⟩ = some (.int .i64 0) := blk_cell hx_ 8
      have df_8 : wr.frozen? ⟨w.heap.size, 8, none⟩ = false := blk_frozen hx_ 8
      have d_9 : wr.cell? ⟨w.heap.size, 9, none⟩ = some (.int .i64 0) := blk_cell hx_ 9
      have df_9 : wr.frozen? ⟨w.heap.size, 9, none⟩ = false := blk_frozen hx_ 9
      go_wp2_with fail
      have k_ := (blk_set (blk_set (blk_set (blk_set (blk_set (blk_set (blk_set (blk_set (blk_set (blk_set hx_ 0 (.string ⟨#[]⟩)) 1 (.int .i64 0)) 2 (.int .i64 0)) 3 (.int .i64 0)) 4 (.int .i64 0)) 5 (.int .i64 0)) 6 (.int .i64 0)) 7 (.int .i64 0)) 8 (.int .i64 0)) 9 (.int .i64 0))
      have hB_ := (Below.setCell (Below.setCell (Below.setCell (Below.setCell (Below.setCell (Below.setCell (Below.setCell (Below.setCell (Below.setCell (Below.setCell hC.be (p := ⟨w.heap.size, 0, none⟩) ((Nat.le_refl _)) (.string ⟨#[]⟩)) (p := ⟨w.heap.size, 1, none⟩) ((Nat.le_refl _)) (.int .i64 0)) (p := ⟨w.heap.size, 2, none⟩) ((Nat.le_refl _)) (.int .i64 0)) (p := ⟨w.heap.size, 3, none⟩) ((Nat.le_refl _)) (.int .i64 0)) (p := ⟨w.heap.size, 4, none⟩) ((Nat.le_refl _)) (.int .i64 0)) (p := ⟨w.heap.size, 5, none⟩) ((Nat.le_refl _)) (.int .i64 0)) (p := ⟨w.heap.size, 6, none⟩) ((Nat.le_refl _)) (.int .i64 0)) (p := ⟨w.heap.size, 7, none⟩) ((Nat.le_refl _)) (.int .i64 0)) (p := ⟨w.heap.size, 8, none⟩) ((Nat.le_refl _)) (.int .i64 0)) (p := ⟨w.heap.size, 9, none⟩) ((Nat.le_refl _)) (.int .i64 0))
      obtain ⟨w_, hw_⟩ : ∃ w_, w_ = (World.setCell (World.setCell (World.setCell (World.setCell (World.setCell (World.setCell (World.setCell (World.setCell (World.setCell (World.setCell wr ⟨w.heap.size, 0, none⟩ (.string ⟨#[]⟩)) ⟨w.heap.size, 1, none⟩ (.int .i64 0)) ⟨w.heap.size, 2, none⟩ (.int .i64 0)) ⟨w.heap.size, 3, none⟩ (.int .i64 0)) ⟨w.heap.size, 4, none⟩ (.int .i64 0)) ⟨w.heap.size, 5, none⟩ (.int .i64 0)) ⟨w.heap.size, 6, none⟩ (.int .i64 0)) ⟨w.heap.size, 7, none⟩ (.int .i64 0)) ⟨w.heap.size, 8, none⟩ (.int .i64 0)) ⟨w.heap.size, 9, none⟩ (.int .i64 0)) := ⟨_, rfl⟩
      rw [← hw_] at k_ hB_
      try rw [← hw_]
      clear hw_
      have s_0 : w_.cell? ⟨w.heap.size, 0, none⟩ = some (.string ⟨#[]⟩) := blk_cell k_ 0
      have s_1 : w_.cell? ⟨w.heap.size, 1, none⟩ = some (.int .i64 0) := blk_cell k_ 1
      have s_2 : w_.cell? ⟨w.heap.size, 2, none⟩ = some (.int .i64 0) := blk_cell k_ 2
      have s_3 : w_.cell? ⟨w.heap.size, 3, none⟩ = some (.int .i64 0) := blk_cell k_ 3
      have s_4 : w_.cell? ⟨w.heap.size, 4, none⟩ = some (.int .i64 0) := blk_cell k_ 4
      have s_5 : w_.cell? ⟨w.heap.size, 5, none⟩ = some (.int .i64 0) := blk_cell k_ 5
      have s_6 : w_.cell? ⟨w.heap.size, 6, none⟩ = some (.int .i64 0) := blk_cell k_ 6
      have s_7 : w_.cell? ⟨w.heap.size, 7, none⟩ = some (.int .i64 0) := blk_cell k_ 7
      have s_8 : w_.cell? ⟨w.heap.size, 8, none⟩ = some (.int .i64 0) := blk_cell k_ 8
      have s_9 : w_.cell? ⟨w.heap.size, 9, none⟩ = some (.int .i64 0) := blk_cell k_ 9
      refine bodyPost_ret (by simp [results, Try.results30, go_sem, s_0, s_1, s_2, s_3, s_4, s_5, s_6, s_7, s_8, s_9]; try rfl) rfl ?_
      have hr : refRow name = zrow := by unfold refRow; rw [HF.out]
      rw [hr, HF.out]
      exact ⟨rfl, hB_⟩
theorem refRow_some {a : ByteArray} {x : URow} (h : find a = some x) : refRow a = { x with name := a } := by unfold refRow; rw [h]
theorem refRow_none {a : ByteArray} (h : find a = none) : refRow a = zrow := by unfold refRow; rw [h]
end Go.Proofs.Ytcldlfhnmkogeaa.Unit

import Derived.Test.YtcldlfhnmkogeaaTermBase
/- The document's labels and terms (lancetref20.Labels, label, Find), walked. -/
set_option linter.unusedVariables false
set_option linter.unusedSimpArgs false
namespace Go.Proofs.Ytcldlfhnmkogeaa.Term
open Go.RowKit Go.Proofs.YtcldlfhnmkogeaaW.PrintWords Go.Proofs.YtcldlfhnmkogeaaW.PrintLast Go.Proofs.Ytcldlfhnmkogeaa.Nats Go.Proofs.Ytcldlfhnmkogeaa.HeapKit

def labelsL : List Value := terms.map fun u => .string u.label
def codesL : List Value := terms.map fun u => .int .i64 u.code
def unitsL : List Value := terms.map fun u => .string u.unit
def leastL : List Value := terms.map fun u => .int .i64 u.ln
def mostL : List Value := terms.map fun u => .int .i64 u.mn
/-- The label of a place. -/
def labAt (i : Int) : ByteArray := (terms[i.toNat]?.getD zrow).label
def pairsL : List Value := wordsL.flatMap fun p => [.string p.1, .string (labAt p.2)]
/-- The label that a name stands for. -/
def labelR (s : ByteArray) : ByteArray := match wordOf s with | some i => labAt i | none => s
theorem find_at {α : Type} {f : α → List UInt8} {n : List UInt8} : ∀ {l : List α} {k : Nat} {u : α}, l[k]? = some u → (∀ x ∈ l.take k, f x ≠ n) → f u = n → l.find? (fun x => f x == n) = some u := by
  intro l
  induction l with
  | nil => intro k u h; simp at h
  | cons a l ih =>
    intro k u h h1 h2
    cases k with
    | zero =>
      simp at h
      subst h
      rw [List.find?_cons]
      simp [h2]
    | succ k =>
      simp at h
      have ha : f a ≠ n := h1 a (by simp)
      rw [List.find?_cons]
      have e : (f a == n) = false := by simp [ha]
      rw [e]
      exact ih h (fun x hx => h1 x (by simp [hx])) h2
theorem find_none {α : Type} {f : α → List UInt8} {n : List UInt8} {l : List α} (h : ∀ x ∈ l, f x ≠ n) : l.find? (fun x => f x == n) = none := by
  rw [List.find?_eq_none]
  intro x hx
  simp [h x hx]
theorem more_at {α : Type} {f : α → List UInt8} {n : List UInt8} {l : List α} {k : Nat} {u : α} (hk : l[k]? = some u) (h1 : ∀ x ∈ l.take k, f x ≠ n) (h2 : f u ≠ n) : ∀ x ∈ l.take (k + 1), f x ≠ n := by
  intro x hx
  rw [List.take_add_one, hk] at hx
  rcases List.mem_append.1 hx with h | h
  · exact h1 x h
  · rw [show x = u from by simpa using h]; exact h2
theorem flat2 {α : Type} (f : α → List Value) (hf : ∀ u, (f u).length = 2) : ∀ (l : List α) (k : Nat) (u : α), l[k]? = some u → ∀ j v, (f u)[j]? = some v → (l.flatMap f)[k * 2 + j]? = some v := by
  intro l
  induction l with
  | nil => intro k u h; simp at h
  | cons a l ih =>
    intro k u h j v hv
    have hl := hf a
    rw [List.flatMap_cons]
    cases k with
    | zero =>
      simp at h
      subst h
      rw [Nat.zero_mul, Nat.zero_add, List.getElem?_append_left (List.getElem?_eq_some_iff.1 hv).1]
      exact hv
    | succ k =>
      simp at h
      rw [List.getElem?_append_right (by rw [hl]; omega), hl, show (k + 1) * 2 + j - 2 = k * 2 + j from by omega]
      exact ih k u h j v hv
theorem apart_all : ∀ k < 24, ∀ x ∈ terms.take k, x.label.toList ≠ (terms[k]?.getD zrow).label.toList := by decide +kernel
theorem find_own {k : Nat} {u : TRow} (h : terms[k]? = some u) : find u.label = some u := by
  have hk : k < 24 := (List.getElem?_eq_some_iff.1 h).1
  have ha := apart_all k hk
  rw [h] at ha
  exact find_at (f := fun x : TRow => x.label.toList) h ha rfl
theorem tfind_label (s : ByteArray) : find (labelR s) = tfind s := by
  unfold labelR tfind
  cases hw : wordOf s with
  | none => rfl
  | some i =>
    obtain ⟨k, rfl, hk⟩ := word_lt hw
    obtain ⟨u, hu⟩ : ∃ u, terms[k]? = some u := ⟨terms[k]'hk, List.getElem?_eq_getElem _⟩
    show find (labAt (k : Int)) = terms[(k : Int).toNat]?
    unfold labAt
    rw [Int.toNat_natCast, hu]
    exact find_own hu
theorem terms_one : ∀ x ∈ terms, x.ld = 1 ∧ x.md = 1 := by decide +kernel
set_option maxRecDepth 100000 in
set_option maxHeartbeats 4000000 in
theorem reflabels_calls (w : World) :
    Calls Try.prog 47 #[] w fun e w' => ∃ g, e = .returned (.slice (some ⟨g, 0, none⟩) 24 24) ∧ w.heap.size ≤ g ∧ w'.heap[g]? = some (.cells labelsL.toArray 9 (0, 0)) ∧ Below w.heap.size w w' := by
  go_enter Try.func47, Try.ntmps47
  go_wp2_with (first | ((with_reducible refine gate_dst (N := 1) rfl ?_); refine lit_event ?hg (N := 1) ?hd (cs := labelsL.toArray) (t := 9) (n := 24) ?hr ?_; (case hd => rfl); (case hg => rfl); (case hr => kernel_rfl); intro g1 hg1 w1 hr1 hB1) | fail)
  subst hg1
  go_ret
  exact ⟨_, rfl, Nat.le_refl _, hr1, hB1⟩
/-- Between two rounds. -/
def RelL (name : ByteArray) (w1 : World) (s4 : Value) (wr : World) : Prop := ∃ k : Nat, k ≤ 26 ∧ s4 = .int .i64 (k : Int) ∧ wr = w1 ∧ ∀ x ∈ wordsL.take k, x.1.toList ≠ name.toList
set_option maxRecDepth 100000 in
set_option maxHeartbeats 16000000 in
theorem label_calls (name : ByteArray) (w : World) :
    Calls Try.prog 69 #[.string name] w fun e w' => e = .returned (.string (labelR name)) ∧ Below w.heap.size w w' := by
  go_enter Try.func69, Try.ntmps69
  go_wp2_with (first | ((with_reducible refine gate_dst (N := 31) rfl ?_); refine lit_event ?hg (N := 31) ?hd (cs := pairsL.toArray) (t := 141) (n := 26) ?hr ?_; (case hd => rfl); (case hg => rfl); (case hr => kernel_rfl); intro g1 hg1 w1 hr1 hB1) | fail)
  subst hg1
  generalize (Value.agg #[.string ⟨#[104, 101, 97, 114, 116]⟩, .string ⟨#[104, 114]⟩]) = z0
  generalize (Value.agg #[.string ⟨#[98, 101, 97, 116, 115]⟩, .string ⟨#[104, 114]⟩]) = z1
  generalize (Value.agg #[.string ⟨#[112, 114]⟩, .string ⟨#[112, 117, 108, 115, 101]⟩]) = z2
  generalize (Value.agg #[.string ⟨#[115, 97, 116]⟩, .string ⟨#[115, 112, 111, 50]⟩]) = z3
  generalize (Value.agg #[.string ⟨#[111, 120, 121, 103, 101, 110]⟩, .string ⟨#[115, 112, 111, 50]⟩]) = z4
  generalize (Value.agg #[.string ⟨#[110, 105, 98, 112, 115]⟩, .string ⟨#[115, 121, 115]⟩]) = z5
  generalize (Value.agg #[.string ⟨#[110, 105, 98, 112, 100]⟩, .string ⟨#[100, 105, 97]⟩]) = z6
  generalize (Value.agg #[.string ⟨#[110, 105, 98, 112, 109]⟩, .string ⟨#[109, 101, 97, 110]⟩]) = z7
  generalize (Value.agg #[.string ⟨#[112, 115]⟩, .string ⟨#[97, 114, 116, 115, 121, 115]⟩]) = z8
  generalize (Value.agg #[.string ⟨#[112, 100]⟩, .string ⟨#[97, 114, 116, 100, 105, 97]⟩]) = z9
  generalize (Value.agg #[.string ⟨#[112, 109]⟩, .string ⟨#[97, 114, 116, 109, 101, 97, 110]⟩]) = z10
  generalize (Value.agg #[.string ⟨#[116, 49]⟩, .string ⟨#[116, 101, 109, 112]⟩]) = z11
  generalize (Value.agg #[.string ⟨#[98, 111, 100, 121]⟩, .string ⟨#[116, 101, 109, 112]⟩]) = z12
  generalize (Value.agg #[.string ⟨#[114, 114]⟩, .string ⟨#[114, 101, 115, 112]⟩]) = z13
  generalize (Value.agg #[.string ⟨#[98, 114, 101, 97, 116, 104, 115]⟩, .string ⟨#[114, 101, 115, 112]⟩]) = z14
  generalize (Value.agg #[.string ⟨#[99, 111, 50]⟩, .string ⟨#[101, 116, 99, 111, 50]⟩]) = z15
  generalize (Value.agg #[.string ⟨#[111, 50]⟩, .string ⟨#[102, 105, 111, 50]⟩]) = z16
  generalize (Value.agg #[.string ⟨#[112, 105, 112]⟩, .string ⟨#[112, 101, 97, 107]⟩]) = z17
  generalize (Value.agg #[.string ⟨#[118, 116]⟩, .string ⟨#[116, 105, 100, 97, 108]⟩]) = z18
  generalize (Value.agg #[.string ⟨#[109, 118]⟩, .string ⟨#[109, 105, 110, 118, 111, 108]⟩]) = z19
  generalize (Value.agg #[.string ⟨#[114, 97, 116, 101]⟩, .string ⟨#[102, 108, 111, 119]⟩]) = z20
  generalize (Value.agg #[.string ⟨#[118, 111, 108, 117, 109, 101]⟩, .string ⟨#[103, 105, 118, 101, 110]⟩]) = z21
  generalize (Value.agg #[.string ⟨#[114, 101, 115, 116]⟩, .string ⟨#[108, 101, 102, 116]⟩]) = z22
  generalize (Value.agg #[.string ⟨#[107, 103, 115]⟩, .string ⟨#[119, 101, 105, 103, 104, 116]⟩]) = z23
  generalize (Value.agg #[.string ⟨#[115, 105, 122, 101]⟩, .string ⟨#[104, 101, 105, 103, 104, 116]⟩]) = z24
  generalize (Value.agg #[.string ⟨#[116, 111, 103, 111]⟩, .string ⟨#[105, 110, 102, 117, 115, 101]⟩]) = z25
  go_loopw [4] (RelL name w1) (fun i _ => 26 - (intOf i).toNat)
  case atStart => exact ⟨0, Nat.zero_le _, rfl, rfl, fun x hx => by simp at hx⟩
  case round =>
    obtain ⟨k, hk, rfl, rfl, hall⟩ := hrel
    have HA := Lib.hid hall
    clear hall
    by_cases hlt : k < 26
    · obtain ⟨u, hku⟩ : ∃ u, wordsL[k]? = some u := ⟨wordsL[k]'(by show k < 26; omega), List.getElem?_eq_getElem _⟩
      obtain ⟨nm, i⟩ := u
      have k0 : wr.cell? ⟨w.heap.size, k * 2, none⟩ = some (.string nm) := by
        rw [blk_cell hr1 _, List.getElem?_toArray, pairsL]
        exact flat2 (fun p : ByteArray × Int => [.string p.1, .string (labAt p.2)]) (fun _ => rfl) _ _ _ hku 0 _ rfl
      have k1 : wr.cell? ⟨w.heap.size, k * 2 + 1, none⟩ = some (.string (labAt i)) := by
        rw [blk_cell hr1 _, List.getElem?_toArray, pairsL]
        exact flat2 (fun p : ByteArray × Int => [.string p.1, .string (labAt p.2)]) (fun _ => rfl) _ _ _ hku 1 _ rfl
      obtain ⟨la, hla⟩ : ∃ la, labAt i = la := ⟨_, rfl⟩
      rw [hla] at k1
      by_cases he : nm.toList = name.toList
      · have hf := find_at (f := fun p : ByteArray × Int => p.1.toList) hku HA.out he
        have ee : (nm.toList == name.toList) = true := by simp [he]
        have hl : labelR name = la := by
          rw [← hla]
          unfold labelR wordOf
          rw [hf]
          rfl
        clear hf hku hla he
        go_wp2_with fail
        go_ret
        rw [hl]
        exact ⟨rfl, hB1⟩
      · have ee : (nm.toList == name.toList) = false := by simp [he]
        have hm := more_at (f := fun p : ByteArray × Int => p.1.toList) hku HA.out he
        have HM := Lib.hid hm
        clear hm he hku hla k1
        go_wp2_with fail
        refine ⟨⟨k + 1, by omega, by simp, rfl, HM.out⟩, ?_⟩
        simp [intOf]
        omega
    · obtain rfl : k = 26 := by omega
      have hl : labelR name = name := by
        unfold labelR wordOf
        rw [find_none (f := fun p : ByteArray × Int => p.1.toList) (fun x hx => HA.out x (by rw [List.take_of_length_le (by decide)]; exact hx))]
        rfl
      go_wp2_with fail
      go_ret
      rw [hl]
      exact ⟨rfl, hB1⟩
/-- The five rows lie in the heap. -/
structure Rows (W : World) (g1 g2 g3 g4 g5 : Nat) : Prop where
  r1 : W.heap[g1]? = some (.cells codesL.toArray 3 (0, 0))
  r2 : W.heap[g2]? = some (.cells unitsL.toArray 9 (0, 0))
  r3 : W.heap[g3]? = some (.cells leastL.toArray 2 (0, 0))
  r4 : W.heap[g4]? = some (.cells mostL.toArray 2 (0, 0))
  r5 : W.heap[g5]? = some (.cells labelsL.toArray 9 (0, 0))
theorem Rows.step {W w2 : World} {g1 g2 g3 g4 g5 : Nat} (h : Rows W g1 g2 g3 g4 g5) (hb : Below W.heap.size W w2) : Rows w2 g1 g2 g3 g4 g5 := ⟨blk_below h.r1 hb, blk_below h.r2 hb, blk_below h.r3 hb, blk_below h.r4 hb, blk_below h.r5 hb⟩
section
variable {W : World} {g1 g2 g3 g4 g5 k : Nat} {u : TRow}
theorem Rows.code (h : Rows W g1 g2 g3 g4 g5) (hk : terms[k]? = some u) : W.cell? ⟨g1, k, none⟩ = some (.int .i64 u.code) := by
  rw [blk_cell h.r1 k, List.getElem?_toArray, codesL, List.getElem?_map, hk]
  rfl
theorem Rows.unit (h : Rows W g1 g2 g3 g4 g5) (hk : terms[k]? = some u) : W.cell? ⟨g2, k, none⟩ = some (.string u.unit) := by
  rw [blk_cell h.r2 k, List.getElem?_toArray, unitsL, List.getElem?_map, hk]
  rfl
theorem Rows.least (h : Rows W g1 g2 g3 g4 g5) (hk : terms[k]? = some u) : W.cell? ⟨g3, k, none⟩ = some (.int .i64 u.ln) := by
  rw [blk_cell h.r3 k, List.getElem?_toArray, leastL, List.getElem?_map, hk]
  rfl
theorem Rows.most (h : Rows W g1 g2 g3 g4 g5) (hk : terms[k]? = some u) : W.cell? ⟨g4, k, none⟩ = some (.int .i64 u.mn) := by
  rw [blk_cell h.r4 k, List.getElem?_toArray, mostL, List.getElem?_map, hk]
  rfl
theorem Rows.label (h : Rows W g1 g2 g3 g4 g5) (hk : terms[k]? = some u) : W.cell? ⟨g5, k, none⟩ = some (.string u.label) := by
  rw [blk_cell h.r5 k, List.getElem?_toArray, labelsL, List.getElem?_map, hk]
  rfl
end
/-- Between two rounds. -/
def RelF (lab : ByteArray) (w : World) (g1 g2 g3 g4 g5 : Nat) (s9 : Value) (wr : World) : Prop := ∃ k : Nat, k ≤ 24 ∧ s9 = .int .i64 (k : Int) ∧ Rows wr g1 g2 g3 g4 g5 ∧ B1 w wr (.cells #[.string ⟨#[]⟩, .int .i64 0, .string ⟨#[]⟩, .int .i64 0, .int .i64 0, .int .i64 0, .int .i64 0] 61) ∧ ∀ x ∈ terms.take k, x.label.toList ≠ lab.toList
set_option maxRecDepth 100000 in
set_option maxHeartbeats 16000000 in
theorem reffind_lab (name lab : ByteArray) (hlb : ∀ w, Calls Try.prog 69 #[.string name] w fun e w' => e = .returned (.string lab) ∧ Below w.heap.size w w') (w : World) :
    Calls Try.prog 35 #[.string name] w fun e w' => e = .returned (.tuple #[((find lab).getD zrow).val, .bool (find lab).isSome]) ∧ Below w.heap.size w w' := by
  have HL := Lib.hid hlb
  clear hlb
  have hB := b1_start w (.cells #[.string ⟨#[]⟩, .int .i64 0, .string ⟨#[]⟩, .int .i64 0, .int .i64 0, .int .i64 0, .int .i64 0] 61)
  go_enter Try.func35, Try.ntmps35
  go_wp2_with (first | ((with_reducible refine gate_dst (N := 10) rfl ?_); refine lit_event ?hg (N := 10) ?hd (cs := codesL.toArray) (t := 3) (n := 24) ?hr ?_; (case hd => rfl); (case hg => rfl); (case hr => kernel_rfl); intro g1 hg1 w1 hr1 hB1) | ((with_reducible refine gate_dst (N := 11) rfl ?_); refine lit_event ?hg (N := 11) ?hd (cs := unitsL.toArray) (t := 9) (n := 24) ?hr ?_; (case hd => rfl); (case hg => rfl); (case hr => kernel_rfl); intro g2 hg2 w2 hr2 hB2) | ((with_reducible refine gate_dst (N := 12) rfl ?_); refine lit_event ?hg (N := 12) ?hd (cs := leastL.toArray) (t := 2) (n := 24) ?hr ?_; (case hd => rfl); (case hg => rfl); (case hr => kernel_rfl); intro g3 hg3 w3 hr3 hB3) | ((with_reducible refine gate_dst (N := 13) rfl ?_); refine lit_event ?hg (N := 13) ?hd (cs := mostL.toArray) (t := 2) (n := 24) ?hr ?_; (case hd => rfl); (case hg => rfl); (case hr => kernel_rfl); intro g4 hg4 w4 hr4 hB4) | fail)
  subst hg2 hg3 hg4
  rw [World.size_alloc] at hg1
  subst hg1
  refine (reflabels_calls _).mono ?_
  rintro e w5 ⟨g5, rfl, hg5, hr5, hB5⟩
  have hR : Rows w5 (w.heap.size + 1) w1.heap.size w2.heap.size w3.heap.size g5 := ⟨blk_below (blk_below (blk_below (blk_below hr1 hB2) hB3) hB4) hB5, blk_below (blk_below (blk_below hr2 hB3) hB4) hB5, blk_below (blk_below hr3 hB4) hB5, blk_below hr4 hB5, hr5⟩
  have hC := ((((hB.step hB1).step hB2).step hB3).step hB4).step hB5
  clear hB hB1 hB2 hB3 hB4 hB5 hr1 hr2 hr3 hr4 hr5 hg5
  go_wp2_with fail
  go_loopw [9] (RelF lab w (w.heap.size + 1) w1.heap.size w2.heap.size w3.heap.size g5) (fun i _ => 24 - (intOf i).toNat)
  case atStart => exact ⟨0, Nat.zero_le _, rfl, hR, hC, fun x hx => by simp at hx⟩
  case round =>
    clear hR hC
    obtain ⟨k, hk, rfl, hR, hC, hall⟩ := hrel
    have HA := Lib.hid hall
    clear hall
    by_cases hlt : k < 24
    · obtain ⟨u, hku⟩ : ∃ u, terms[k]? = some u := ⟨terms[k]'(by show k < 24; omega), List.getElem?_eq_getElem _⟩
      have h11 := terms_one u (List.mem_of_getElem? hku)
      obtain ⟨lb, cd, un, ln, ld, mn, md⟩ := u
      obtain ⟨rfl, rfl⟩ : ld = 1 ∧ md = 1 := h11
      have HK := Lib.hid hku
      go_wp2_with fail
      refine start_ (n := 7) (S := fun wx => Rows wx (w.heap.size + 1) w1.heap.size w2.heap.size w3.heap.size g5 ∧ B1 w wx (.cells #[.string ⟨#[]⟩, .int .i64 0, .string ⟨#[]⟩, .int .i64 0, .int .i64 0, .int .i64 0, .int .i64 0] 61)) (ds := []) #[false, false, false, false, false, false, false] (by kernel_rfl) rfl rfl ⟨hR.step (below_drew (Below.refl _ _)), hC.step (below_drew (Below.refl _ _))⟩ (fun hHeld => ?_)
      refine pure_ (i := 0) (N := some 21) (v := ?_) (a' := ?_) #[true, false, false, false, false, false, false] rfl rfl (by kernel_rfl) (fun _ _ _ h => h) (Or.inl ⟨by rfl, ?_⟩) ?_ ?_
      rotate_left
      · intro w'
        go_simp
        try with_reducible rfl
      rotate_left
      · simp only [Act.put, List.setIfInBounds_toArray, List.set_cons_zero, List.set_cons_succ, i64_w, i32_w]
        rfl
      refine pure_ (i := 1) (N := some 22) (v := ?_) (a' := ?_) #[true, true, false, false, false, false, false] rfl rfl (by kernel_rfl) (fun _ _ _ h => h) (Or.inl ⟨by rfl, ?_⟩) ?_ ?_
      rotate_left
      · intro w'
        go_simp
        try with_reducible rfl
      rotate_left
      · simp only [Act.put, List.setIfInBounds_toArray, List.set_cons_zero, List.set_cons_succ, i64_w, i32_w]
        rfl
      refine pure_ (i := 2) (N := some 23) (v := ?_) (a' := ?_) #[true, true, true, false, false, false, false] rfl rfl (by kernel_rfl) (fun _ _ _ h => h) (Or.inl ⟨by rfl, ?_⟩) ?_ ?_
      rotate_left
      · intro w'
        go_simp
        try with_reducible rfl
      rotate_left
      · simp only [Act.put, List.setIfInBounds_toArray, List.set_cons_zero, List.set_cons_succ, i64_w, i32_w]
        rfl
      refine take_ (i := 3) (N := some 24) (v := ?_) (a' := ?_) #[true, true, true, true, false, false, false] rfl rfl (by kernel_rfl) (fun _ _ _ h => h) (Or.inl ⟨by rfl, ?_⟩) hHeld ?_ ?_
      rotate_left
      · rintro w' ⟨hr_, hc_⟩
        have k5 : w'.cell? ⟨g5, k, none⟩ = some (.string lb) := hr_.label hku
        go_simp
        with_reducible rfl
      rotate_left
      · simp only [Act.put, List.setIfInBounds_toArray, List.set_cons_zero, List.set_cons_succ, i64_w, i32_w]
        rfl
      refine pure_ (i := 4) (N := some 25) (v := ?_) (a' := ?_) #[true, true, true, true, true, false, false] rfl rfl (by kernel_rfl) (fun _ _ _ h => h) (Or.inl ⟨by rfl, ?_⟩) ?_ ?_
      rotate_left
      · intro w'
        go_simp
        try with_reducible rfl
      rotate_left
      · simp only [Act.put, List.setIfInBounds_toArray, List.set_cons_zero, List.set_cons_succ, i64_w, i32_w]
        rfl
      refine one_ (i := 5) (N := some 26) #[true, true, true, true, true, true, false] rfl rfl (by kernel_rfl) (by decide) (fun K hK => ?_)
      refine goes_ Try.func69 (by kernel_rfl) rfl #[.string name] (by rfl) rfl rfl (by (try simp only [List.map_toArray, List.map_cons, List.map_nil]); first | done | rfl) ?_
      refine (HL.out _).mono ?_
      rintro e wz ⟨rfl, hb_⟩
      refine ⟨_, rfl, ?_⟩
      refine hK.out _ _ ⟨hHeld.1.step hb_, hHeld.2.step hb_⟩ (fun hHeld => ?_)
      clear hK K
      refine norm_ (a' := ?_) ?_ ?_
      rotate_left
      · show Act.put _ (some 26) _ = _
        simp only [Act.put, List.setIfInBounds_toArray, List.set_cons_zero, List.set_cons_succ, i64_w, i32_w]
        rfl
      refine pure_ (i := 6) (N := some 27) (v := ?_) (a' := ?_) #[true, true, true, true, true, true, true] rfl rfl (by kernel_rfl) (fun _ _ _ h => h) (Or.inl ⟨by rfl, ?_⟩) ?_ ?_
      rotate_left
      · intro w'
        go_simp
        try with_reducible rfl
      rotate_left
      · simp only [Act.put, List.setIfInBounds_toArray, List.set_cons_zero, List.set_cons_succ, i64_w, i32_w]
        rfl
      refine done_ (by kernel_rfl) ?_
      clear hR hC
      obtain ⟨hR1, hC1⟩ := hHeld
      by_cases he : lb.toList = lab.toList
      · have hf : find lab = some ⟨lb, cd, un, ln, 1, mn, 1⟩ := find_at (f := fun x : TRow => x.label.toList) hku HA.out he
        have ee : (lb.toList == lab.toList) = true := by simp [he]
        have HF := Lib.hid hf
        clear hf he
        rw [ee]
        go_wp2_with fail
        have hd := below_drew (Below.refl wz.heap.size wz)
        have hC2 := hC1.step hd
        have q0 : wz.cell? ⟨w.heap.size, 0, none⟩ = some (.string ⟨#[]⟩) := blk_cell hC1.b1 0
        have qf0 : wz.frozen? ⟨w.heap.size, 0, none⟩ = false := blk_frozen hC1.b1 0
        have q1 : wz.cell? ⟨w.heap.size, 1, none⟩ = some (.int .i64 0) := blk_cell hC1.b1 1
        have qf1 : wz.frozen? ⟨w.heap.size, 1, none⟩ = false := blk_frozen hC1.b1 1
        have q2 : wz.cell? ⟨w.heap.size, 2, none⟩ = some (.string ⟨#[]⟩) := blk_cell hC1.b1 2
        have qf2 : wz.frozen? ⟨w.heap.size, 2, none⟩ = false := blk_frozen hC1.b1 2
        have q3 : wz.cell? ⟨w.heap.size, 3, none⟩ = some (.int .i64 0) := blk_cell hC1.b1 3
        have qf3 : wz.frozen? ⟨w.heap.size, 3, none⟩ = false := blk_frozen hC1.b1 3
        have q4 : wz.cell? ⟨w.heap.size, 4, none⟩ = some (.int .i64 0) := blk_cell hC1.b1 4
        have qf4 : wz.frozen? ⟨w.heap.size, 4, none⟩ = false := blk_frozen hC1.b1 4
        have q5 : wz.cell? ⟨w.heap.size, 5, none⟩ = some (.int .i64 0) := blk_cell hC1.b1 5
        have qf5 : wz.frozen? ⟨w.heap.size, 5, none⟩ = false := blk_frozen hC1.b1 5
        have q6 : wz.cell? ⟨w.heap.size, 6, none⟩ = some (.int .i64 0) := blk_cell hC1.b1 6
        have qf6 : wz.frozen? ⟨w.heap.size, 6, none⟩ = false := blk_frozen hC1.b1 6
        refine start_ (n := 25) (S := fun wx => Rows wx (w.heap.size + 1) w1.heap.size w2.heap.size w3.heap.size g5 ∧ B1 w wx (.cells #[.string ⟨#[]⟩, .int .i64 0, .string ⟨#[]⟩, .int .i64 0, .int .i64 0, .int .i64 0, .int .i64 0] 61)) (ds := [23]) #[false, false, false, false, false, false, false, false, false, false, false, false, false, false, false, false, false, false, false, false, false, false, false, false, false] (by kernel_rfl) rfl rfl ⟨hR1.step hd, hC1.step hd⟩ (fun hHeld => ?_)
        refine pure_ (i := 0) (N := some 28) (v := ?_) (a' := ?_) #[true, false, false, false, false, false, false, false, false, false, false, false, false, false, false, false, false, false, false, false, false, false, false, false, false] rfl rfl (by kernel_rfl) (fun _ _ _ h => h) (Or.inl ⟨by rfl, ?_⟩) ?_ ?_
        rotate_left
        · intro w'
          go_simp
          try with_reducible rfl
        rotate_left
        · simp only [Act.put, List.setIfInBounds_toArray, List.set_cons_zero, List.set_cons_succ, i64_w, i32_w]
          rfl
        refine pure_ (i := 1) (N := some 29) (v := ?_) (a' := ?_) #[true, true, false, false, false, false, false, false, false, false, false, false, false, false, false, false, false, false, false, false, false, false, false, false, false] rfl rfl (by kernel_rfl) (fun _ _ _ h => h) (Or.inl ⟨by rfl, ?_⟩) ?_ ?_
        rotate_left
        · intro w'
          go_simp
          try with_reducible rfl
        rotate_left
        · simp only [Act.put, List.setIfInBounds_toArray, List.set_cons_zero, List.set_cons_succ, i64_w, i32_w]
          rfl
        refine pure_ (i := 2) (N := some 30) (v := ?_) (a' := ?_) #[true, true, true, false, false, false, false, false, false, false, false, false, false, false, false, false, false, false, false, false, false, false, false, false, false] rfl rfl (by kernel_rfl) (fun _ _ _ h => h) (Or.inl ⟨by rfl, ?_⟩) ?_ ?_
        rotate_left
        · intro w'
          go_simp
          try with_reducible rfl
        rotate_left
        · simp only [Act.put, List.setIfInBounds_toArray, List.set_cons_zero, List.set_cons_succ, i64_w, i32_w]
          rfl
        refine take_ (i := 3) (N := some 31) (v := ?_) (a' := ?_) #[true, true, true, true, false, false, false, false, false, false, false, false, false, false, false, false, false, false, false, false, false, false, false, false, false] rfl rfl (by kernel_rfl) (fun _ _ _ h => h) (Or.inl ⟨by rfl, ?_⟩) hHeld ?_ ?_
        rotate_left
        · rintro w' ⟨hr_, hc_⟩
          have k1 : w'.cell? ⟨w.heap.size + 1, k, none⟩ = some (.int .i64 cd) := hr_.code hku
          have k2 : w'.cell? ⟨w1.heap.size, k, none⟩ = some (.string un) := hr_.unit hku
          have k3 : w'.cell? ⟨w2.heap.size, k, none⟩ = some (.int .i64 ln) := hr_.least hku
          have k4 : w'.cell? ⟨w3.heap.size, k, none⟩ = some (.int .i64 mn) := hr_.most hku
          have k5 : w'.cell? ⟨g5, k, none⟩ = some (.string lb) := hr_.label hku
          go_simp
          with_reducible rfl
        rotate_left
        · simp only [Act.put, List.setIfInBounds_toArray, List.set_cons_zero, List.set_cons_succ, i64_w, i32_w]
          rfl
        refine pure_ (i := 4) (N := some 32) (v := ?_) (a' := ?_) #[true, true, true, true, true, false, false, false, false, false, false, false, false, false, false, false, false, false, false, false, false, false, false, false, false] rfl rfl (by kernel_rfl) (fun _ _ _ h => h) (Or.inl ⟨by rfl, ?_⟩) ?_ ?_
        rotate_left
        · intro w'
          go_simp
          try with_reducible rfl
        rotate_left
        · simp only [Act.put, List.setIfInBounds_toArray, List.set_cons_zero, List.set_cons_succ, i64_w, i32_w]
          rfl
        refine pure_ (i := 5) (N := some 33) (v := ?_) (a' := ?_) #[true, true, true, true, true, true, false, false, false, false, false, false, false, false, false, false, false, false, false, false, false, false, false, false, false] rfl rfl (by kernel_rfl) (fun _ _ _ h => h) (Or.inl ⟨by rfl, ?_⟩) ?_ ?_
        rotate_left
        · intro w'
          go_simp
          try with_reducible rfl
        rotate_left
        · simp only [Act.put, List.setIfInBounds_toArray, List.set_cons_zero, List.set_cons_succ, i64_w, i32_w]
          rfl
        refine pure_ (i := 6) (N := some 34) (v := ?_) (a' := ?_) #[true, true, true, true, true, true, true, false, false, false, false, false, false, false, false, false, false, false, false, false, false, false, false, false, false] rfl rfl (by kernel_rfl) (fun _ _ _ h => h) (Or.inl ⟨by rfl, ?_⟩) ?_ ?_
        rotate_left
        · intro w'
          go_simp
          try with_reducible rfl
        rotate_left
        · simp only [Act.put, List.setIfInBounds_toArray, List.set_cons_zero, List.set_cons_succ, i64_w, i32_w]
          rfl
        refine take_ (i := 7) (N := some 35) (v := ?_) (a' := ?_) #[true, true, true, true, true, true, true, true, false, false, false, false, false, false, false, false, false, false, false, false, false, false, false, false, false] rfl rfl (by kernel_rfl) (fun _ _ _ h => h) (Or.inl ⟨by rfl, ?_⟩) hHeld ?_ ?_
        rotate_left
        · rintro w' ⟨hr_, hc_⟩
          have k1 : w'.cell? ⟨w.heap.size + 1, k, none⟩ = some (.int .i64 cd) := hr_.code hku
          have k2 : w'.cell? ⟨w1.heap.size, k, none⟩ = some (.string un) := hr_.unit hku
          have k3 : w'.cell? ⟨w2.heap.size, k, none⟩ = some (.int .i64 ln) := hr_.least hku
          have k4 : w'.cell? ⟨w3.heap.size, k, none⟩ = some (.int .i64 mn) := hr_.most hku
          have k5 : w'.cell? ⟨g5, k, none⟩ = some (.string lb) := hr_.label hku
          go_simp
          with_reducible rfl
        rotate_left
        · simp only [Act.put, List.setIfInBounds_toArray, List.set_cons_zero, List.set_cons_succ, i64_w, i32_w]
          rfl
        refine pure_ (i := 8) (N := some 36) (v := ?_) (a' := ?_) #[true, true, true, true, true, true, true, true, true, false, false, false, false, false, false, false, false, false, false, false, false, false, false, false, false] rfl rfl (by kernel_rfl) (fun _ _ _ h => h) (Or.inl ⟨by rfl, ?_⟩) ?_ ?_
        rotate_left
        · intro w'
          go_simp
          try with_reducible rfl
        rotate_left
        · simp only [Act.put, List.setIfInBounds_toArray, List.set_cons_zero, List.set_cons_succ, i64_w, i32_w]
          rfl
        refine pure_ (i := 9) (N := some 37) (v := ?_) (a' := ?_) #[true, true, true, true, true, true, true, true, true, true, false, false, false, false, false, false, false, false, false, false, false, false, false, false, false] rfl rfl (by kernel_rfl) (fun _ _ _ h => h) (Or.inl ⟨by rfl, ?_⟩) ?_ ?_
        rotate_left
        · intro w'
          go_simp
          try with_reducible rfl
        rotate_left
        · simp only [Act.put, List.setIfInBounds_toArray, List.set_cons_zero, List.set_cons_succ, i64_w, i32_w]
          rfl
        refine pure_ (i := 10) (N := some 38) (v := ?_) (a' := ?_) #[true, true, true, true, true, true, true, true, true, true, true, false, false, false, false, false, false, false, false, false, false, false, false, false, false] rfl rfl (by kernel_rfl) (fun _ _ _ h => h) (Or.inl ⟨by rfl, ?_⟩) ?_ ?_
        rotate_left
        · intro w'
          go_simp
          try with_reducible rfl
        rotate_left
        · simp only [Act.put, List.setIfInBounds_toArray, List.set_cons_zero, List.set_cons_succ, i64_w, i32_w]
          rfl
        refine take_ (i := 11) (N := some 39) (v := ?_) (a' := ?_) #[true, true, true, true, true, true, true, true, true, true, true, true, false, false, false, false, false, false, false, false, false, false, false, false, false] rfl rfl (by kernel_rfl) (fun _ _ _ h => h) (Or.inl ⟨by rfl, ?_⟩) hHeld ?_ ?_
        rotate_left
        · rintro w' ⟨hr_, hc_⟩
          have k1 : w'.cell? ⟨w.heap.size + 1, k, none⟩ = some (.int .i64 cd) := hr_.code hku
          have k2 : w'.cell? ⟨w1.heap.size, k, none⟩ = some (.string un) := hr_.unit hku
          have k3 : w'.cell? ⟨w2.heap.size, k, none⟩ = some (.int .i64 ln) := hr_.least hku
          have k4 : w'.cell? ⟨w3.heap.size, k, none⟩ = some (.int .i64 mn) := hr_.most hku
          have k5 : w'.cell? ⟨g5, k, none⟩ = some (.string lb) := hr_.label hku
          go_simp
          with_reducible rfl
        rotate_left
        · simp only [Act.put, List.setIfInBounds_toArray, List.set_cons_zero, List.set_cons_succ, i64_w, i32_w]
          rfl
        refine pure_ (i := 12) (N := some 40) (v := ?_) (a' := ?_) #[true, true, true, true, true, true, true, true, true, true, true, true, true, false, false, false, false, false, false, false, false, false, false, false, false] rfl rfl (by kernel_rfl) (fun _ _ _ h => h) (Or.inl ⟨by rfl, ?_⟩) ?_ ?_
        rotate_left
        · intro w'
          go_simp
          try with_reducible rfl
        rotate_left
        · simp only [Act.put, List.setIfInBounds_toArray, List.set_cons_zero, List.set_cons_succ, i64_w, i32_w]
          rfl
        refine pure_ (i := 13) (N := some 41) (v := ?_) (a' := ?_) #[true, true, true, true, true, true, true, true, true, true, true, true, true, true, false, false, false, false, false, false, false, false, false, false, false] rfl rfl (by kernel_rfl) (fun _ _ _ h => h) (Or.inl ⟨by rfl, ?_⟩) ?_ ?_
        rotate_left
        · intro w'
          go_simp
          try with_reducible rfl
        rotate_left
        · simp only [Act.put, List.setIfInBounds_toArray, List.set_cons_zero, List.set_cons_succ, i64_w, i32_w]
          rfl
        refine pure_ (i := 14) (N := some 42) (v := ?_) (a' := ?_) #[true, true, true, true, true, true, true, true, true, true, true, true, true, true, true, false, false, false, false, false, false, false, false, false, false] rfl rfl (by kernel_rfl) (fun _ _ _ h => h) (Or.inl ⟨by rfl, ?_⟩) ?_ ?_
        rotate_left
        · intro w'
          go_simp
          try with_reducible rfl
        rotate_left
        · simp only [Act.put, List.setIfInBounds_toArray, List.set_cons_zero, List.set_cons_succ, i64_w, i32_w]
          rfl
        refine take_ (i := 15) (N := some 43) (v := ?_) (a' := ?_) #[true, true, true, true, true, true, true, true, true, true, true, true, true, true, true, true, false, false, false, false, false, false, false, false, false] rfl rfl (by kernel_rfl) (fun _ _ _ h => h) (Or.inl ⟨by rfl, ?_⟩) hHeld ?_ ?_
        rotate_left
        · rintro w' ⟨hr_, hc_⟩
          have k1 : w'.cell? ⟨w.heap.size + 1, k, none⟩ = some (.int .i64 cd) := hr_.code hku
          have k2 : w'.cell? ⟨w1.heap.size, k, none⟩ = some (.string un) := hr_.unit hku
          have k3 : w'.cell? ⟨w2.heap.size, k, none⟩ = some (.int .i64 ln) := hr_.least hku
          have k4 : w'.cell? ⟨w3.heap.size, k, none⟩ = some (.int .i64 mn) := hr_.most hku
          have k5 : w'.cell? ⟨g5, k, none⟩ = some (.string lb) := hr_.label hku
          go_simp
          with_reducible rfl
        rotate_left
        · simp only [Act.put, List.setIfInBounds_toArray, List.set_cons_zero, List.set_cons_succ, i64_w, i32_w]
          rfl
        refine pure_ (i := 16) (N := some 44) (v := ?_) (a' := ?_) #[true, true, true, true, true, true, true, true, true, true, true, true, true, true, true, true, true, false, false, false, false, false, false, false, false] rfl rfl (by kernel_rfl) (fun _ _ _ h => h) (Or.inl ⟨by rfl, ?_⟩) ?_ ?_
        rotate_left
        · intro w'
          go_simp
          try with_reducible rfl
        rotate_left
        · simp only [Act.put, List.setIfInBounds_toArray, List.set_cons_zero, List.set_cons_succ, i64_w, i32_w]
          rfl
        refine pure_ (i := 17) (N := some 45) (v := ?_) (a' := ?_) #[true, true, true, true, true, true, true, true, true, true, true, true, true, true, true, true, true, true, false, false, false, false, false, false, false] rfl rfl (by kernel_rfl) (fun _ _ _ h => h) (Or.inl ⟨by rfl, ?_⟩) ?_ ?_
        rotate_left
        · intro w'
          go_simp
          try with_reducible rfl
        rotate_left
        · simp only [Act.put, List.setIfInBounds_toArray, List.set_cons_zero, List.set_cons_succ, i64_w, i32_w]
          rfl
        refine pure_ (i := 18) (N := some 46) (v := ?_) (a' := ?_) #[true, true, true, true, true, true, true, true, true, true, true, true, true, true, true, true, true, true, true, false, false, false, false, false, false] rfl rfl (by kernel_rfl) (fun _ _ _ h => h) (Or.inl ⟨by rfl, ?_⟩) ?_ ?_
        rotate_left
        · intro w'
          go_simp
          try with_reducible rfl
        rotate_left
        · simp only [Act.put, List.setIfInBounds_toArray, List.set_cons_zero, List.set_cons_succ, i64_w, i32_w]
          rfl
        refine pure_ (i := 19) (N := some 47) (v := ?_) (a' := ?_) #[true, true, true, true, true, true, true, true, true, true, true, true, true, true, true, true, true, true, true, true, false, false, false, false, false] rfl rfl (by kernel_rfl) (fun _ _ _ h => h) (Or.inl ⟨by rfl, ?_⟩) ?_ ?_
        rotate_left
        · intro w'
          go_simp
          try with_reducible rfl
        rotate_left
        · simp only [Act.put, List.setIfInBounds_toArray, List.set_cons_zero, List.set_cons_succ, i64_w, i32_w]
          rfl
        refine take_ (i := 20) (N := some 48) (v := ?_) (a' := ?_) #[true, true, true, true, true, true, true, true, true, true, true, true, true, true, true, true, true, true, true, true, true, false, false, false, false] rfl rfl (by kernel_rfl) (fun _ _ _ h => h) (Or.inl ⟨by rfl, ?_⟩) hHeld ?_ ?_
        rotate_left
        · rintro w' ⟨hr_, hc_⟩
          have k1 : w'.cell? ⟨w.heap.size + 1, k, none⟩ = some (.int .i64 cd) := hr_.code hku
          have k2 : w'.cell? ⟨w1.heap.size, k, none⟩ = some (.string un) := hr_.unit hku
          have k3 : w'.cell? ⟨w2.heap.size, k, none⟩ = some (.int .i64 ln) := hr_.least hku
          have k4 : w'.cell? ⟨w3.heap.size, k, none⟩ = some (.int .i64 mn) := hr_.most hku
          have k5 : w'.cell? ⟨g5, k, none⟩ = some (.string lb) := hr_.label hku
          go_simp
          with_reducible rfl
        rotate_left
        · simp only [Act.put, List.setIfInBounds_toArray, List.set_cons_zero, List.set_cons_succ, i64_w, i32_w]
          rfl
        refine pure_ (i := 21) (N := some 49) (v := ?_) (a' := ?_) #[true, true, true, true, true, true, true, true, true, true, true, true, true, true, true, true, true, true, true, true, true, true, false, false, false] rfl rfl (by kernel_rfl) (fun _ _ _ h => h) (Or.inl ⟨by rfl, ?_⟩) ?_ ?_
        rotate_left
        · intro w'
          go_simp
          try with_reducible rfl
        rotate_left
        · simp only [Act.put, List.setIfInBounds_toArray, List.set_cons_zero, List.set_cons_succ, i64_w, i32_w]
          rfl
        refine pure_ (i := 22) (N := some 50) (v := ?_) (a' := ?_) #[true, true, true, true, true, true, true, true, true, true, true, true, true, true, true, true, true, true, true, true, true, true, true, false, false] rfl rfl (by kernel_rfl) (fun _ _ _ h => h) (Or.inl ⟨by rfl, ?_⟩) ?_ ?_
        rotate_left
        · intro w'
          go_simp
          try with_reducible rfl
        rotate_left
        · simp only [Act.put, List.setIfInBounds_toArray, List.set_cons_zero, List.set_cons_succ, i64_w, i32_w]
          rfl
        refine last_ (i := 23) (N := none) #[true, true, true, true, true, true, true, true, true, true, true, true, true, true, true, true, true, true, true, true, true, true, true, true, false] rfl rfl (by kernel_rfl) (by decide) (fun K hK => ?_)
        refine skip_ (w1 := (((((((((((((((wz).setCell ⟨w.heap.size, 0, none⟩ (.string lb))).setCell ⟨w.heap.size, 1, none⟩ (.int .i64 cd))).setCell ⟨w.heap.size, 2, none⟩ (.string un))).setCell ⟨w.heap.size, 3, none⟩ (.int .i64 ln))).setCell ⟨w.heap.size, 4, none⟩ (.int .i64 1))).setCell ⟨w.heap.size, 5, none⟩ (.int .i64 mn))).setCell ⟨w.heap.size, 6, none⟩ (.int .i64 1))).drew) (by rfl) rfl ?_ ?_
        · first
          | (go_simp; done)
          | (go_simp; rfl)
        refine hK.out _ _ ?_
        clear hK K
        refine norm_ (a' := ?_) ?_ ?_
        rotate_left
        · rfl
        refine pure_ (i := 24) (N := some 3) (v := ?_) (a' := ?_) #[true, true, true, true, true, true, true, true, true, true, true, true, true, true, true, true, true, true, true, true, true, true, true, true, true] rfl rfl (by kernel_rfl) (fun _ _ _ h => h) (Or.inl ⟨by rfl, ?_⟩) ?_ ?_
        rotate_left
        · intro w'
          go_simp
          try with_reducible rfl
        rotate_left
        · simp only [Act.put, List.setIfInBounds_toArray, List.set_cons_zero, List.set_cons_succ, i64_w, i32_w]
          rfl
        refine done_ (by kernel_rfl) ?_
        clear hd hR1 hku hHeld
        clear q0 qf0 q1 qf1 q2 qf2 q3 qf3 q4 qf4 q5 qf5 q6 qf6
        have k1 := put7_blk ⟨lb, cd, un, ln, 1, mn, 1⟩ hC1.b1
        have kB := put7_below ⟨lb, cd, un, ln, 1, mn, 1⟩ hC1.be (Nat.le_refl w.heap.size)
        obtain ⟨W2, hW2⟩ : ∃ W2, W2 = (put7 wz w.heap.size ⟨lb, cd, un, ln, 1, mn, 1⟩).drew := ⟨_, rfl⟩
        have k2 : W2.heap[w.heap.size]? = some (.cells #[.string lb, .int .i64 cd, .string un, .int .i64 ln, .int .i64 1, .int .i64 mn, .int .i64 1] 61 (0, 0)) := by rw [hW2]; exact blk_below k1 (below_drew (Below.refl _ _))
        have hB_ : Below w.heap.size w W2 := by rw [hW2]; exact below_drew kB
        rw [show (((((((((((((((wz).setCell ⟨w.heap.size, 0, none⟩ (.string lb))).setCell ⟨w.heap.size, 1, none⟩ (.int .i64 cd))).setCell ⟨w.heap.size, 2, none⟩ (.string un))).setCell ⟨w.heap.size, 3, none⟩ (.int .i64 ln))).setCell ⟨w.heap.size, 4, none⟩ (.int .i64 1))).setCell ⟨w.heap.size, 5, none⟩ (.int .i64 mn))).setCell ⟨w.heap.size, 6, none⟩ (.int .i64 1))).drew = W2 from hW2.symm]
        clear hW2 k1 kB hC1 hC2
        have s0 : W2.cell? ⟨w.heap.size, 0, none⟩ = some (.string lb) := blk_cell k2 0
        have s1 : W2.cell? ⟨w.heap.size, 1, none⟩ = some (.int .i64 cd) := blk_cell k2 1
        have s2 : W2.cell? ⟨w.heap.size, 2, none⟩ = some (.string un) := blk_cell k2 2
        have s3 : W2.cell? ⟨w.heap.size, 3, none⟩ = some (.int .i64 ln) := blk_cell k2 3
        have s4 : W2.cell? ⟨w.heap.size, 4, none⟩ = some (.int .i64 1) := blk_cell k2 4
        have s5 : W2.cell? ⟨w.heap.size, 5, none⟩ = some (.int .i64 mn) := blk_cell k2 5
        have s6 : W2.cell? ⟨w.heap.size, 6, none⟩ = some (.int .i64 1) := blk_cell k2 6
        go_wp2_with fail
        refine bodyPost_ret (by simp [results, Try.results35, go_sem, s0, s1, s2, s3, s4, s5, s6]; try rfl) rfl ?_
        rw [HF.out]
        exact ⟨rfl, hB_⟩
      · have ee : (lb.toList == lab.toList) = false := by simp [he]
        have hm := more_at (f := fun x : TRow => x.label.toList) hku HA.out he
        have HM := Lib.hid hm
        clear hm he
        rw [ee]
        go_wp2_with fail
        refine ⟨⟨k + 1, by omega, by simp, hR1, hC1, HM.out⟩, ?_⟩
        simp [intOf]
        omega
    · obtain rfl : k = 24 := by omega
      have hf : find lab = none := find_none (f := fun x : TRow => x.label.toList) (fun x hx => HA.out x (by rw [List.take_of_length_le (by decide)]; exact hx))
      have HF := Lib.hid hf
      clear hf
      have c0 : wr.cell? ⟨w.heap.size, 0, none⟩ = some (.string ⟨#[]⟩) := blk_cell hC.b1 0
      have cf0 : wr.frozen? ⟨w.heap.size, 0, none⟩ = false := blk_frozen hC.b1 0
      have c1 : wr.cell? ⟨w.heap.size, 1, none⟩ = some (.int .i64 0) := blk_cell hC.b1 1
      have cf1 : wr.frozen? ⟨w.heap.size, 1, none⟩ = false := blk_frozen hC.b1 1
      have c2 : wr.cell? ⟨w.heap.size, 2, none⟩ = some (.string ⟨#[]⟩) := blk_cell hC.b1 2
      have cf2 : wr.frozen? ⟨w.heap.size, 2, none⟩ = false := blk_frozen hC.b1 2
      have c3 : wr.cell? ⟨w.heap.size, 3, none⟩ = some (.int .i64 0) := blk_cell hC.b1 3
      have cf3 : wr.frozen? ⟨w.heap.size, 3, none⟩ = false := blk_frozen hC.b1 3
      have c4 : wr.cell? ⟨w.heap.size, 4, none⟩ = some (.int .i64 0) := blk_cell hC.b1 4
      have cf4 : wr.frozen? ⟨w.heap.size, 4, none⟩ = false := blk_frozen hC.b1 4
      have c5 : wr.cell? ⟨w.heap.size, 5, none⟩ = some (.int .i64 0) := blk_cell hC.b1 5
      have cf5 : wr.frozen? ⟨w.heap.size, 5, none⟩ = false := blk_frozen hC.b1 5
      have c6 : wr.cell? ⟨w.heap.size, 6, none⟩ = some (.int .i64 0) := blk_cell hC.b1 6
      have cf6 : wr.frozen? ⟨w.heap.size, 6, none⟩ = false := blk_frozen hC.b1 6
      have hx_ := hC.b1
      have d_0 : wr.cell? ⟨w.heap.size, 0, none⟩ = some (.string ⟨#[]⟩) := blk_cell hx_ 0
      have df_0 : wr.frozen? ⟨w.heap.size, 0, none⟩ = false := blk_frozen hx_ 0
      have d_1 : wr.cell? ⟨w.heap.size, 1, none⟩ = some (.int .i64 0) := blk_cell hx_ 1
      have df_1 : wr.frozen? ⟨w.heap.size, 1, none⟩ = false := blk_frozen hx_ 1
      have d_2 : wr.cell? ⟨w.heap.size, 2, none⟩ = some (.string ⟨#[]⟩) := blk_cell hx_ 2
      have df_2 : wr.frozen? ⟨w.heap.size, 2, none⟩ = false := blk_frozen hx_ 2
      have d_3 : wr.cell? ⟨w.heap.size, 3, none⟩ = some (.int .i64 0) := blk_cell hx_ 3
      have df_3 : wr.frozen? ⟨w.heap.size, 3, none⟩ = false := blk_frozen hx_ 3
      have d_4 : wr.cell? ⟨w.heap.size, 4, none⟩ = some (.int .i64 0) := blk_cell hx_ 4
      have df_4 : wr.frozen? ⟨w.heap.size, 4, none⟩ = false := blk_frozen hx_ 4
      have d_5 : wr.cell? ⟨w.heap.size, 5, none⟩ = some (.int .i64 0) := blk_cell hx_ 5
      have df_5 : wr.frozen? ⟨w.heap.size, 5, none⟩ = false := blk_frozen hx_ 5
      have d_6 : wr.cell? ⟨w.heap.size, 6, none⟩ = some (.int .i64 0) := blk_cell hx_ 6
      have df_6 : wr.frozen? ⟨w.heap.size, 6, none⟩ = false := blk_frozen hx_ 6
      go_wp2_with fail
      have k_ := (blk_set (blk_set (blk_set (blk_set (blk_set (blk_set (blk_set hx_ 0 (.string ⟨#[]⟩)) 1 (.int .i64 0)) 2 (.string ⟨#[]⟩)) 3 (.int .i64 0)) 4 (.int .i64 0)) 5 (.int .i64 0)) 6 (.int .i64 0))
      have hB_ := (Below.setCell (Below.setCell (Below.setCell (Below.setCell (Below.setCell (Below.setCell (Below.setCell hC.be (p := ⟨w.heap.size, 0, none⟩) ((Nat.le_refl _)) (.string ⟨#[]⟩)) (p := ⟨w.heap.size, 1, none⟩) ((Nat.le_refl _)) (.int .i64 0)) (p := ⟨w.heap.size, 2, none⟩) ((Nat.le_refl _)) (.string ⟨#[]⟩)) (p := ⟨w.heap.size, 3, none⟩) ((Nat.le_refl _)) (.int .i64 0)) (p := ⟨w.heap.size, 4, none⟩) ((Nat.le_refl _)) (.int .i64 0)) (p := ⟨w.heap.size, 5, none⟩) ((Nat.le_refl _)) (.int .i64 0)) (p := ⟨w.heap.size, 6, none⟩) ((Nat.le_refl _)) (.int .i64 0))
      obtain ⟨w_, hw_⟩ : ∃ w_, w_ = (World.setCell (World.setCell (World.setCell (World.setCell (World.setCell (World.setCell (World.setCell wr ⟨w.heap.size, 0, none⟩ (.string ⟨#[]⟩)) ⟨w.heap.size, 1, none⟩ (.int .i64 0)) ⟨w.heap.size, 2, none⟩ (.string ⟨#[]⟩)) ⟨w.heap.size, 3, none⟩ (.int .i64 0)) ⟨w.heap.size, 4, none⟩ (.int .i64 0)) ⟨w.heap.size, 5, none⟩ (.int .i64 0)) ⟨w.heap.size, 6, none⟩ (.int .i64 0)) := ⟨_, rfl⟩
      rw [← hw_] at k_ hB_
      try rw [← hw_]
      clear hw_
      have s_0 : w_.cell? ⟨w.heap.size, 0, none⟩ = some (.string ⟨#[]⟩) := blk_cell k_ 0
      have s_1 : w_.cell? ⟨w.heap.size, 1, none⟩ = some (.int .i64 0) := blk_cell k_ 1
      have s_2 : w_.cell? ⟨w.heap.size, 2, none⟩ = some (.string ⟨#[]⟩) := blk_cell k_ 2
      have s_3 : w_.cell? ⟨w.heap.size, 3, none⟩ = some (.int .i64 0) := blk_cell k_ 3
      have s_4 : w_.cell? ⟨w.heap.size, 4, none⟩ = some (.int .i64 0) := blk_cell k_ 4
      have s_5 : w_.cell? ⟨w.heap.size, 5, none⟩ = some (.int .i64 0) := blk_cell k_ 5
      have s_6 : w_.cell? ⟨w.heap.size, 6, none⟩ = some (.int .i64 0) := blk_cell k_ 6
      refine bodyPost_ret (by simp [results, Try.results35, go_sem, s_0, s_1, s_2, s_3, s_4, s_5, s_6]; try rfl) rfl ?_
      rw [HF.out]
      exact ⟨rfl, hB_⟩
theorem reffind20_calls (name : ByteArray) (w : World) :
    Calls Try.prog 35 #[.string name] w fun e w' => e = .returned (.tuple #[((tfind name).getD zrow).val, .bool (tfind name).isSome]) ∧ Below w.heap.size w w' := by
  rw [← tfind_label name]
  exact reffind_lab name (labelR name) (label_calls name) w
end Go.Proofs.Ytcldlfhnmkogeaa.Term

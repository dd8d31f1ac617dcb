import Derived.Test.YtcmofedfbjpjlaaRingListInt
/- A ring's functions as a queue's: a list, the oldest one first. -/
set_option linter.unusedVariables false
set_option linter.unusedSimpArgs false
namespace Go.Proofs.Ytcmofedfbjpjlaa.RingQInt
open Go.RowKit Go.Proofs.YtcmofedfbjpjlaaW.PrintWords Go.Proofs.Ytcmofedfbjpjlaa.Nats Go.Proofs.Ytcmofedfbjpjlaa.RingInt Go.Proofs.Ytcmofedfbjpjlaa.RingListInt

theorem upto_congr {α : Type} {f g : Nat → α} (n : Nat) (h : ∀ i, i < n → f i = g i) : upto f n = upto g n := by
  unfold upto
  exact List.map_congr_left (fun i hi => h i (List.mem_range.1 hi))
theorem upto_cons {α : Type} (f : Nat → α) (n : Nat) : upto f (n + 1) = f 0 :: upto (fun i => f (i + 1)) n := by
  unfold upto
  rw [List.range_succ_eq_map]
  simp [Function.comp_def]
theorem mod_two {a m : Nat} (h : a < 2 * m) : a % m = if a < m then a else a - m := by
  split
  · rename_i h1; exact Nat.mod_eq_of_lt h1
  · rename_i h1
    rw [Nat.mod_eq_sub_mod (by omega), Nat.mod_eq_of_lt (by omega)]
theorem getD_set_same {α : Type} (l : List α) (i : Nat) (x d : α) (h : i < l.length) : (l.set i x).getD i d = x := by
  simp [List.getD_eq_getElem?_getD, h]
theorem getD_set_other {α : Type} (l : List α) (i j : Nat) (x d : α) (h : i ≠ j) : (l.set i x).getD j d = l.getD j d := by
  simp [List.getD_eq_getElem?_getD, List.getElem?_set, h]
section
variable (vs : List Int) (f most n : Nat) (x : Int)
theorem waits_room (hl : vs.length = most) (hf : f < most) (hn : n < most) : waits (vs.set ((f + n) % most) x) f most (n + 1) = waits vs f most n ++ [x] := by
  unfold waits
  rw [upto_succ, getD_set_same _ _ _ _ (by rw [hl]; exact Nat.mod_lt _ (by omega))]
  congr 1
  apply upto_congr
  intro i hi
  rw [getD_set_other]
  rw [mod_two (by omega), mod_two (by omega)]
  split <;> split <;> omega
theorem waits_take (hl : vs.length = most) (hf : f < most) (hn : n + 1 ≤ most) : waits (vs.set f x) ((f + 1) % most) most n = (waits vs f most (n + 1)).tail := by
  unfold waits
  rw [upto_cons, List.tail_cons]
  apply upto_congr
  intro i hi
  rw [Nat.mod_add_mod, show f + 1 + i = f + (i + 1) from by omega, getD_set_other]
  rw [mod_two (by omega)]
  split <;> omega
theorem waits_head (hf : f < most) : waits vs f most (n + 1) = vs.getD f 0 :: (waits vs f most (n + 1)).tail := by
  unfold waits
  rw [upto_cons, List.tail_cons, Nat.add_zero, Nat.mod_eq_of_lt hf]
theorem waits_full (hl : vs.length = most) (hf : f < most) : waits (vs.set f x) ((f + 1) % most) most most = (waits vs f most most).tail ++ [x] := by
  obtain ⟨m, rfl⟩ : ∃ m, most = m + 1 := ⟨most - 1, by omega⟩
  have h1 := waits_take vs f (m + 1) m x hl hf (Nat.le_refl _)
  rw [← h1]
  unfold waits
  rw [upto_succ, Nat.mod_add_mod, show f + 1 + m = f + (m + 1) from by omega, Nat.add_mod_right, Nat.mod_eq_of_lt hf, getD_set_same _ _ _ _ (by omega)]
theorem waits_length : (waits vs f most n).length = n := by unfold waits; exact upto_length _ _
end

/-- The ring's blocks hold the queue Q. -/
def Qu (W : World) (gb ga most : Nat) (Q : List Int) (lost : Nat) : Prop := ∃ vs f, Rg W gb ga most vs f Q.length lost ∧ waits vs f most Q.length = Q
def putQ (most : Nat) (Q : List Int) (x : Int) : List Int := if Q.length < most then Q ++ [x] else Q.tail ++ [x]
def putL (most : Nat) (Q : List Int) (lost : Nat) : Nat := if Q.length < most then lost else lost + 1
section
variable {W w2 : World} {gb ga most lost : Nat} {Q : List Int}
theorem Qu.step (h : Qu W gb ga most Q lost) (hb : Below W.heap.size W w2) : Qu w2 gb ga most Q lost := by
  obtain ⟨vs, f, h1, h2⟩ := h
  exact ⟨vs, f, h1.step hb, h2⟩
theorem Qu.kept (h : Qu W gb ga most Q lost) {g1 g2 : Nat} (hb : Turn g1 g2 W w2) (h1 : ¬ (gb = g1 ∨ gb = g2)) (h2 : ¬ (ga = g1 ∨ ga = g2)) : Qu w2 gb ga most Q lost := by
  obtain ⟨vs, f, h3, h4⟩ := h
  exact ⟨vs, f, h3.kept hb h1 h2, h4⟩
theorem Qu.fits (h : Qu W gb ga most Q lost) : Q.length ≤ most ∧ 1 ≤ most ∧ most ≤ 64 := by
  obtain ⟨vs, f, h3, h4⟩ := h
  exact ⟨h3.nl, h3.m1, h3.m2⟩
theorem putQ_length (h : Q.length ≤ most) (h1 : 1 ≤ most) (x : Int) : (putQ most Q x).length ≤ most := by
  unfold putQ
  split <;> simp <;> omega
theorem put (h : Qu W gb ga most Q lost) (hl : lost < 1000) (x : Int) :
    Calls Try.prog 19 #[.pointer (some ⟨gb, 0, none⟩), (Value.int .i64) x] W fun e w' => e = .returned (.bool (decide (Q.length < most))) ∧ Qu w' gb ga most (putQ most Q x) (putL most Q lost) ∧ Turn gb ga W w' := by
  obtain ⟨vs, f, h1, h2⟩ := h
  by_cases hlt : Q.length < most
  · refine (put_room h1 hlt x).mono ?_
    rintro e w' ⟨rfl, h3, h4⟩
    refine ⟨by simp [hlt], ?_, h4⟩
    rw [putQ, putL, if_pos hlt, if_pos hlt]
    refine ⟨_, _, by rw [List.length_append]; exact h3, ?_⟩
    rw [List.length_append, List.length_singleton, waits_room vs f most _ x h1.len h1.fl hlt, h2]
  · have he : Q.length = most := by have := h1.nl; omega
    have h1' := h1
    rw [he] at h1' h2
    refine (put_full h1' hl x).mono ?_
    rintro e w' ⟨rfl, h3, h4⟩
    refine ⟨by simp [hlt], ?_, h4⟩
    have hm := h1.m1
    have hlen : (Q.tail ++ [x]).length = most := by rw [List.length_append, List.length_tail, List.length_singleton]; omega
    rw [putQ, putL, if_neg hlt, if_neg hlt]
    refine ⟨_, _, by rw [hlen]; exact h3, ?_⟩
    rw [hlen, waits_full vs f most x h1.len h1.fl, h2]
theorem take (h : Qu W gb ga most Q lost) :
    Calls Try.prog 18 #[.pointer (some ⟨gb, 0, none⟩)] W fun e w' => e = .returned (.tuple #[(Value.int .i64) (Q.headD 0), .bool (!Q.isEmpty)]) ∧ Qu w' gb ga most Q.tail lost ∧ Turn gb ga W w' := by
  obtain ⟨vs, f, h1, h2⟩ := h
  cases Q with
  | nil =>
    refine (take_none h1).mono ?_
    rintro e w' ⟨rfl, hb⟩
    exact ⟨rfl, ⟨vs, f, h1.step hb, h2⟩, Turn.of_below hb⟩
  | cons q Q =>
    rw [List.length_cons] at h1 h2
    have hq : vs.getD f 0 = q := by
      have := waits_head vs f most Q.length h1.fl
      rw [h2] at this
      exact (List.cons.inj this).1.symm
    refine (take_one h1 q hq).mono ?_
    rintro e w' ⟨rfl, h3, h4⟩
    refine ⟨rfl, ⟨_, _, h3, ?_⟩, h4⟩
    rw [List.tail_cons, waits_take vs f most Q.length _ h1.len h1.fl h1.nl, h2, List.tail_cons]
theorem lenQ (h : Qu W gb ga most Q lost) : Calls Try.prog 23 #[.pointer (some ⟨gb, 0, none⟩)] W fun e w' => e = .returned (.int .i64 (Q.length : Int)) ∧ Below W.heap.size W w' := by
  obtain ⟨vs, f, h1, h2⟩ := h
  exact len h1
theorem lostQ (h : Qu W gb ga most Q lost) : Calls Try.prog 24 #[.pointer (some ⟨gb, 0, none⟩)] W fun e w' => e = .returned (.int .i64 (lost : Int)) ∧ Below W.heap.size W w' := by
  obtain ⟨vs, f, h1, h2⟩ := h
  exact RingInt.lost h1
theorem newQ (most : Nat) (h1 : 1 ≤ most) (h2 : most ≤ 64) (W : World) :
    Calls Try.prog 17 #[.int .i64 (most : Int)] W fun e w' => ∃ gb ga, e = .returned (.tuple #[.pointer (some ⟨gb, 0, none⟩), .int .i64 0]) ∧ Qu w' gb ga most [] 0 ∧ W.heap.size ≤ gb ∧ W.heap.size ≤ ga ∧ Below W.heap.size W w' := by
  refine (new_ok most h1 h2 W).mono ?_
  rintro e w' ⟨gb, ga, rfl, h3, h4, h5, h6⟩
  exact ⟨gb, ga, rfl, ⟨_, _, h3, rfl⟩, h4, h5, h6⟩
/-- What List answers: a slice whose cells these are. -/
def Row (W : World) (v : Value) (Q : List Int) : Prop := (v = .slice none 0 0 ∧ Q = []) ∨ ∃ g c, v = .slice (some ⟨g, 0, none⟩) Q.length c ∧ Q.length ≤ c ∧ ∀ i, i < Q.length → W.cell? ⟨g, i, none⟩ = some ((Value.int .i64) (Q.getD i 0))
theorem row_of {base : Nat} {v : Value} (h : W.ownsRow base 3 1 v Q.length (Q.map (Value.int .i64))) : Row W v Q := by
  rcases h.2 with ⟨rfl, h0⟩ | ⟨g, cap, cur, rfl, _, hg, hc, _, hs, ht⟩
  · exact .inl ⟨rfl, List.length_eq_zero_iff.1 h0⟩
  · refine .inr ⟨g, cap, rfl, hc, fun i hi => ?_⟩
    rw [blk_cell hg i, ← Array.getElem?_toList]
    have h1 : (cur.toList.take (Q.length * 1))[i]? = cur.toList[i]? := by rw [List.getElem?_take]; simp [hi]
    rw [← h1, ht]
    simp [List.getD_eq_getElem?_getD, hi]
theorem Row.step {v : Value} (h : Row W v Q) (hb : Below W.heap.size W w2) : Row w2 v Q := by
  rcases h with h | ⟨g, c, h1, h2, h3⟩
  · exact .inl h
  · refine .inr ⟨g, c, h1, h2, fun i hi => ?_⟩
    have h4 := h3 i hi
    exact (hb.cell (p := ⟨g, i, none⟩) (World.block_lt_of_cell? W ⟨g, i, none⟩ h4)).trans h4
theorem listQ (h : Qu W gb ga most Q lost) : Calls Try.prog 20 #[.pointer (some ⟨gb, 0, none⟩)] W fun e w' => ∃ v, e = .returned v ∧ Row w' v Q ∧ Below W.heap.size W w' := by
  obtain ⟨vs, f, h1, h2⟩ := h
  refine (RingListInt.list h1).mono ?_
  rintro e w' ⟨v, rfl, h3, h4⟩
  rw [h2] at h3
  exact ⟨v, rfl, row_of h3, h4⟩
end
end Go.Proofs.Ytcmofedfbjpjlaa.RingQInt

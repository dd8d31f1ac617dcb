import Derived.Test.YtmnohhmnkmnikaaTopOf
/- The law TopUnits, walked. -/
set_option linter.unusedVariables false
set_option linter.unusedSimpArgs false
namespace Go.Proofs.Ytmnohhmnkmnikaa.TopUnitsWalk
open Go.RowKit Go.Proofs.YtmnohhmnkmnikaaW.PrintWords Go.Proofs.YtmnohhmnkmnikaaW.PrintLast Go.Proofs.Ytmnohhmnkmnikaa.Nats Go.Proofs.Ytmnohhmnkmnikaa.HeapKit Go.Proofs.Ytmnohhmnkmnikaa.RatPlain Go.Proofs.Ytmnohhmnkmnikaa.Unit Go.Proofs.Ytmnohhmnkmnikaa.Scale Go.Proofs.Ytmnohhmnkmnikaa.Obs

/-- The boxes. -/
structure Ag (w wx : World) (f0 : ByteArray) (f1 : Int) (f2 : ByteArray) (f3 sn sd on od : Int) (f8 : ByteArray) (p9 p10 : Nat) (y4 y5 y6 y7 : Int) (y8 : ByteArray) : Prop where
  b : B1 w wx (.cells #[.string f0, .int .i64 f1, .string f2, .int .i64 f3, .int .i64 sn, .int .i64 sd, .int .i64 on, .int .i64 od, .string f8] 51)
  k9 : wx.heap[p9]? = some (.cells #[.string f0, .int .i64 f1, .string f2, .int .i64 f3, .int .i64 sn, .int .i64 sd, .int .i64 on, .int .i64 od, .string f8] 55 (0, 0))
  k10 : wx.heap[p10]? = some (.cells #[.string f0, .int .i64 f1, .string f2, .int .i64 f3, .int .i64 y4, .int .i64 y5, .int .i64 y6, .int .i64 y7, .string y8] 55 (0, 0))
section
variable {w wx w2 : World} {f0 : ByteArray} {f1 : Int} {f2 : ByteArray} {f3 sn sd on od : Int} {f8 : ByteArray} {p9 p10 : Nat} {y4 y5 y6 y7 : Int} {y8 : ByteArray}
theorem Ag.step (h : Ag w wx f0 f1 f2 f3 sn sd on od f8 p9 p10 y4 y5 y6 y7 y8) (hb : Below wx.heap.size wx w2) : Ag w w2 f0 f1 f2 f3 sn sd on od f8 p9 p10 y4 y5 y6 y7 y8 :=
  ⟨h.b.step hb, blk_below h.k9 hb, blk_below h.k10 hb⟩
theorem Ag.put8 (h : Ag w wx f0 f1 f2 f3 sn sd on od f8 p9 p10 y4 y5 y6 y7 y8) (h1 : w.heap.size + 1 ≤ p10) (h2 : p9 ≠ p10) (u : ByteArray) : Ag w (wx.setCell ⟨p10, 8, none⟩ (.string u)) f0 f1 f2 f3 sn sd on od f8 p9 p10 y4 y5 y6 y7 u :=
  ⟨h.b.far (p := ⟨p10, 8, none⟩) h1 _, blk_far h.k9 (p := ⟨p10, 8, none⟩) h2 _, blk_put h.k10 8 _ rfl⟩
theorem Ag.put4 (h : Ag w wx f0 f1 f2 f3 sn sd on od f8 p9 p10 y4 y5 y6 y7 y8) (h1 : w.heap.size + 1 ≤ p10) (h2 : p9 ≠ p10) (u : Int) : Ag w (wx.setCell ⟨p10, 4, none⟩ (.int .i64 u)) f0 f1 f2 f3 sn sd on od f8 p9 p10 u y5 y6 y7 y8 :=
  ⟨h.b.far (p := ⟨p10, 4, none⟩) h1 _, blk_far h.k9 (p := ⟨p10, 4, none⟩) h2 _, blk_put h.k10 4 _ rfl⟩
theorem Ag.put5 (h : Ag w wx f0 f1 f2 f3 sn sd on od f8 p9 p10 y4 y5 y6 y7 y8) (h1 : w.heap.size + 1 ≤ p10) (h2 : p9 ≠ p10) (u : Int) : Ag w (wx.setCell ⟨p10, 5, none⟩ (.int .i64 u)) f0 f1 f2 f3 sn sd on od f8 p9 p10 y4 u y6 y7 y8 :=
  ⟨h.b.far (p := ⟨p10, 5, none⟩) h1 _, blk_far h.k9 (p := ⟨p10, 5, none⟩) h2 _, blk_put h.k10 5 _ rfl⟩
theorem Ag.put6 (h : Ag w wx f0 f1 f2 f3 sn sd on od f8 p9 p10 y4 y5 y6 y7 y8) (h1 : w.heap.size + 1 ≤ p10) (h2 : p9 ≠ p10) (u : Int) : Ag w (wx.setCell ⟨p10, 6, none⟩ (.int .i64 u)) f0 f1 f2 f3 sn sd on od f8 p9 p10 y4 y5 u y7 y8 :=
  ⟨h.b.far (p := ⟨p10, 6, none⟩) h1 _, blk_far h.k9 (p := ⟨p10, 6, none⟩) h2 _, blk_put h.k10 6 _ rfl⟩
theorem Ag.put7 (h : Ag w wx f0 f1 f2 f3 sn sd on od f8 p9 p10 y4 y5 y6 y7 y8) (h1 : w.heap.size + 1 ≤ p10) (h2 : p9 ≠ p10) (u : Int) : Ag w (wx.setCell ⟨p10, 7, none⟩ (.int .i64 u)) f0 f1 f2 f3 sn sd on od f8 p9 p10 y4 y5 y6 u y8 :=
  ⟨h.b.far (p := ⟨p10, 7, none⟩) h1 _, blk_far h.k9 (p := ⟨p10, 7, none⟩) h2 _, blk_put h.k10 7 _ rfl⟩
end
theorem conv_ex2 {a b : ByteArray} {vn vd : Int} (h1 : I64 vn) (h2 : I64 vd) : ∃ r1 r2 r3, convR a b vn vd = (r1, r2, r3) ∧ (∀ w, Calls Try.prog 19 #[.agg #[.int .i64 vn, .int .i64 vd], .string a, .string b] w fun e w' => e = .returned (.tuple #[.agg #[.int .i64 r1, .int .i64 r2], .int .i64 r3]) ∧ Below w.heap.size w w') ∧ I64 r1 ∧ I64 r2 :=
  UnitLaw.conv_ex h1 h2
theorem in_I64 {sn sd on od raw : Int} (hraw : I64 raw) (u tu : ByteArray) : In (inR sn sd on od raw u tu) := by
  have h0 : I64 0 := by decide
  have h := value_In (sn := sn) (sd := sd) (on := on) (od := od) hraw
  unfold inR
  split
  · exact conv_In h.1 h.2
  · exact ⟨h0, h0⟩
theorem terms_in : ∀ x ∈ Term.terms, I64 x.ln ∧ I64 x.ld ∧ I64 x.mn ∧ I64 x.md := by decide +kernel
theorem tfind_mem {s : ByteArray} {u : Term.TRow} (h : Term.tfind s = some u) : u ∈ Term.terms := by
  unfold Term.tfind at h
  split at h
  · exact List.mem_of_getElem? h
  · exact List.mem_of_find?_eq_some h
/-- A field with a term, observed. -/
theorem of_known (f0 : ByteArray) (f1 : Int) (f2 : ByteArray) (f3 sn sd on od : Int) (f8 : ByteArray) (n : Int) (ok : Bool) (u : Term.TRow) (hu : Term.tfind f0 = some u) (hz : f0.size ≤ 50) (hsn : I64 sn) (hsd : I64 sd) (hon : I64 on) (hod : I64 od) (hn : I64 n) :
    ∃ v1 v2 e ins, inR sn sd on od n f8 u.unit = (v1, v2, e) ∧ (e = 0 → ins = Term.insideR u v1 v2) ∧ ∀ w, Calls Try.prog 21 #[.agg #[.string f0, .int .i64 f1, .string f2, .int .i64 f3, .int .i64 sn, .int .i64 sd, .int .i64 on, .int .i64 od, .string f8], .agg #[.int .i64 n, .bool ok], .int .i64 1, .int .i64 2] w fun q w' => q = .returned (.agg #[.int .i64 1, .string f0, .int .i64 u.code, .int .i64 ((Unit.find u.unit).getD Unit.zrow).code, .int .i64 (obsN ok e v1), .int .i64 (obsN ok e v2), .int .i64 (obsF ok e ins), .int .i64 2]) ∧ Below w.heap.size w w' := by
  have hI := in_I64 (sn := sn) (sd := sd) (on := on) (od := od) hn f8 u.unit
  have hc := fun w => in_calls f0 f1 f2 f3 sn sd on od f8 n u.unit hsn hsd hon hod hn w
  obtain ⟨⟨v1, v2, e⟩, hr⟩ : ∃ r, inR sn sd on od n f8 u.unit = r := ⟨_, rfl⟩
  rw [hr] at hI
  simp only [hr, ans] at hc
  have hf := fun w => Term.find_calls f0 w
  simp only [hu, Term.TRow.val] at hf
  have hcd := fun w => Term.code_calls f0 (by omega) w
  have ecd : Term.codeR f0 = (u.code, true) := by unfold Term.codeR; rw [hu]
  simp only [ecd] at hcd
  have hX := fun w => Unit.find_calls u.unit w
  obtain ⟨i1, i2, i3, i4⟩ := terms_in u (tfind_mem hu)
  exact ⟨v1, v2, e, Term.insideR u v1 v2, hr, fun _ => rfl, fun w => of_term f0 f1 f2 f3 sn sd on od f8 n ok 1 2 u u.code _ _ v1 v2 e _ hf hcd hX hc (fun _ w => Term.inside_calls u hI.1 hI.2 i1 i2 i3 i4 w) w⟩
theorem and1 : Go.bits .and .i64 1 2 = 0 := by decide
theorem and2 : Go.bits .and .i64 2 2 = 2 := by decide
theorem and0 : Go.bits .and .i64 0 2 = 0 := by decide
theorem and8 : Go.bits .and .i64 8 2 = 0 := by decide
theorem and16 : Go.bits .and .i64 16 2 = 0 := by decide
/-- Either is beyond 64 bits, or both tell the same. -/
theorem alike {v1 v2 j w1 w2 k : Int} {i1 i2 ok : Bool} (h : Fit v1 v2 j w1 w2 k) (hi : j = 0 → k = 0 → v1 = w1 → v2 = w2 → i1 = i2) :
    ¬ (Go.bits .and .i64 (obsF ok j i1) 2 == 0) = true ∨ ((Go.bits .and .i64 (obsF ok j i1) 2 == 0) = true ∧ ¬ (Go.bits .and .i64 (obsF ok k i2) 2 == 0) = true) ∨
      ((Go.bits .and .i64 (obsF ok j i1) 2 == 0) = true ∧ (Go.bits .and .i64 (obsF ok k i2) 2 == 0) = true ∧ obsF ok j i1 = obsF ok k i2 ∧ obsN ok j v1 = obsN ok k w1 ∧ obsN ok j v2 = obsN ok k w2) := by
  cases ok with
  | false => exact .inr (.inr (by simp [obsF, obsN, and1]))
  | true =>
    rcases h with ⟨rfl, _⟩ | ⟨rfl, rfl | rfl | rfl⟩ | ⟨rfl, rfl⟩ | ⟨rfl, rfl⟩ | ⟨rfl, rfl, rfl, rfl⟩
    · exact .inl (by simp [obsF, and2])
    · cases i1 <;> exact .inr (.inl (by simp [obsF, and2, and0, and8]))
    · exact .inr (.inl (by simp [obsF, and2, and16]))
    · exact .inr (.inl (by simp [obsF, and2, and16]))
    · exact .inr (.inr (by simp [obsF, obsN, and16]))
    · exact .inr (.inr (by simp [obsF, obsN, and16]))
    · obtain rfl := hi rfl rfl rfl rfl
      cases i1 <;> exact .inr (.inr (by simp [obsF, obsN, and0, and8]))

set_option maxRecDepth 100000 in
set_option maxHeartbeats 4000000 in
theorem walk (f0 : ByteArray) (f1 : Int) (f2 : ByteArray) (f3 sn sd on od : Int) (f8 : ByteArray) (u2 : ByteArray) (raw : Int) (ok : Bool) (hsn : I64 sn) (hsd : I64 sd) (hon : I64 on) (hod : I64 od) (hraw : I64 raw) (w : World) :
    Calls Try.prog 4 #[.agg #[.string f0, .int .i64 f1, .string f2, .int .i64 f3, .int .i64 sn, .int .i64 sd, .int .i64 on, .int .i64 od, .string f8], .string u2, .int .i64 raw, .bool ok] w fun e w' => e = .returned (.bool true) ∧ Below w.heap.size w w' := by
  obtain ⟨a1, a2, a3, ea, ca, ia1, ia2⟩ := conv_ex2 (a := f8) (b := u2) hsn hsd
  obtain ⟨b1, b2, b3, eb, cb, ib1, ib2⟩ := conv_ex2 (a := f8) (b := u2) (by decide : I64 0) (by decide : I64 1)
  obtain ⟨c1, c2, c3, ec, cc, ic1, ic2⟩ := conv_ex2 (a := f8) (b := u2) hon hod
  obtain ⟨kb, u, hkn, hku⟩ : ∃ (kb : Bool) (u : Term.TRow), (∀ w, Calls Try.prog 18 #[.string f0] w fun e w' => e = .returned (.tuple #[.agg #[.string u.label, .int .i64 u.code, .string u.unit, .int .i64 u.ln, .int .i64 u.ld, .int .i64 u.mn, .int .i64 u.md], .bool kb]) ∧ Below w.heap.size w w') ∧ (kb = true → Term.tfind f0 = some u) := by
    have hf := fun w => Term.find_calls f0 w
    cases hu : Term.tfind f0 with
    | none =>
      simp only [hu, Term.TRow.val] at hf
      exact ⟨_, Term.zrow, hf, fun e => (by cases e)⟩
    | some u =>
      simp only [hu, Term.TRow.val] at hf
      exact ⟨_, u, hf, fun _ => rfl⟩
  have CA := Lib.hid ca
  have CB := Lib.hid cb
  have CC := Lib.hid cc
  have KN := Lib.hid hkn
  have KU := Lib.hid hku
  have EA := Lib.hid ea
  have EB := Lib.hid eb
  have EC := Lib.hid ec
  clear ca cb cc hkn hku ea eb ec
  go_enter Try.func4, Try.ntmps4
  go_wp2_with fail
  refine (goes_calls _).mono ?_
  rintro e w1 ⟨rfl, hb1⟩
  have hB := (b1_start w (.cells #[.string f0, .int .i64 f1, .string f2, .int .i64 f3, .int .i64 sn, .int .i64 sd, .int .i64 on, .int .i64 od, .string f8] 51)).step hb1
  clear hb1
  have fa0 : w1.cell? ⟨w.heap.size, 0, none⟩ = some (.string f0) := blk_cell hB.b1 0
  have fa1 : w1.cell? ⟨w.heap.size, 1, none⟩ = some (.int .i64 f1) := blk_cell hB.b1 1
  have fa2 : w1.cell? ⟨w.heap.size, 2, none⟩ = some (.string f2) := blk_cell hB.b1 2
  have fa3 : w1.cell? ⟨w.heap.size, 3, none⟩ = some (.int .i64 f3) := blk_cell hB.b1 3
  have fa4 : w1.cell? ⟨w.heap.size, 4, none⟩ = some (.int .i64 sn) := blk_cell hB.b1 4
  have fa5 : w1.cell? ⟨w.heap.size, 5, none⟩ = some (.int .i64 sd) := blk_cell hB.b1 5
  have fa6 : w1.cell? ⟨w.heap.size, 6, none⟩ = some (.int .i64 on) := blk_cell hB.b1 6
  have fa7 : w1.cell? ⟨w.heap.size, 7, none⟩ = some (.int .i64 od) := blk_cell hB.b1 7
  have fa8 : w1.cell? ⟨w.heap.size, 8, none⟩ = some (.string f8) := blk_cell hB.b1 8
  go_wp2_with fail
  refine (few_calls f0 f1 f2 f3 sn sd on od f8 _).mono ?_
  rintro e w2 ⟨he, hb2⟩
  replace hB := hB.step hb2
  clear hb2 fa0 fa1 fa2 fa3 fa4 fa5 fa6 fa7 fa8
  rcases he with rfl | ⟨rfl, hz⟩
  · go_wp2_with fail
    refine (goes_calls _).mono ?_
    rintro e w9 ⟨rfl, hb9⟩
    replace hB := hB.step hb9
    go_wp2_with fail
    go_ret
    exact ⟨rfl, hB.be⟩
  by_cases q0 : ((u2.size : Nat) : Int) > 50
  · have t0 : decide (((u2.size : Nat) : Int) > 50) = true := decide_eq_true q0
    go_wp2_with fail
    refine (goes_calls _).mono ?_
    rintro e w9 ⟨rfl, hb9⟩
    replace hB := hB.step hb9
    go_wp2_with fail
    go_ret
    exact ⟨rfl, hB.be⟩
  have t0 : decide (((u2.size : Nat) : Int) > 50) = false := decide_eq_false q0
  have fa0 : w2.cell? ⟨w.heap.size, 0, none⟩ = some (.string f0) := blk_cell hB.b1 0
  have fa1 : w2.cell? ⟨w.heap.size, 1, none⟩ = some (.int .i64 f1) := blk_cell hB.b1 1
  have fa2 : w2.cell? ⟨w.heap.size, 2, none⟩ = some (.string f2) := blk_cell hB.b1 2
  have fa3 : w2.cell? ⟨w.heap.size, 3, none⟩ = some (.int .i64 f3) := blk_cell hB.b1 3
  have fa4 : w2.cell? ⟨w.heap.size, 4, none⟩ = some (.int .i64 sn) := blk_cell hB.b1 4
  have fa5 : w2.cell? ⟨w.heap.size, 5, none⟩ = some (.int .i64 sd) := blk_cell hB.b1 5
  have fa6 : w2.cell? ⟨w.heap.size, 6, none⟩ = some (.int .i64 on) := blk_cell hB.b1 6
  have fa7 : w2.cell? ⟨w.heap.size, 7, none⟩ = some (.int .i64 od) := blk_cell hB.b1 7
  have fa8 : w2.cell? ⟨w.heap.size, 8, none⟩ = some (.string f8) := blk_cell hB.b1 8
  go_wp2_with fail
  clear t0 q0 fa0 fa1 fa2 fa3 fa4 fa5 fa6 fa7 fa8
  refine (of_calls f0 f1 f2 f3 sn sd on od f8 _).mono ?_
  rintro e w3 ⟨rfl, hb_⟩
  replace hB := hB.step hb_
  have z9 := hB.size
  replace hB := hB.step (below_alloc (Below.refl _ _) (.cells #[.string f0, .int .i64 f1, .string f2, .int .i64 f3, .int .i64 sn, .int .i64 sd, .int .i64 on, .int .i64 od, .string f8] 55))
  have k9 := blk_new w3 (.cells #[.string f0, .int .i64 f1, .string f2, .int .i64 f3, .int .i64 sn, .int .i64 sd, .int .i64 on, .int .i64 od, .string f8] 55)
  clear hb_
  have fa0 : (w3.alloc (.cells #[.string f0, .int .i64 f1, .string f2, .int .i64 f3, .int .i64 sn, .int .i64 sd, .int .i64 on, .int .i64 od, .string f8] 55)).cell? ⟨w.heap.size, 0, none⟩ = some (.string f0) := blk_cell hB.b1 0
  have fa1 : (w3.alloc (.cells #[.string f0, .int .i64 f1, .string f2, .int .i64 f3, .int .i64 sn, .int .i64 sd, .int .i64 on, .int .i64 od, .string f8] 55)).cell? ⟨w.heap.size, 1, none⟩ = some (.int .i64 f1) := blk_cell hB.b1 1
  have fa2 : (w3.alloc (.cells #[.string f0, .int .i64 f1, .string f2, .int .i64 f3, .int .i64 sn, .int .i64 sd, .int .i64 on, .int .i64 od, .string f8] 55)).cell? ⟨w.heap.size, 2, none⟩ = some (.string f2) := blk_cell hB.b1 2
  have fa3 : (w3.alloc (.cells #[.string f0, .int .i64 f1, .string f2, .int .i64 f3, .int .i64 sn, .int .i64 sd, .int .i64 on, .int .i64 od, .string f8] 55)).cell? ⟨w.heap.size, 3, none⟩ = some (.int .i64 f3) := blk_cell hB.b1 3
  have fa4 : (w3.alloc (.cells #[.string f0, .int .i64 f1, .string f2, .int .i64 f3, .int .i64 sn, .int .i64 sd, .int .i64 on, .int .i64 od, .string f8] 55)).cell? ⟨w.heap.size, 4, none⟩ = some (.int .i64 sn) := blk_cell hB.b1 4
  have fa5 : (w3.alloc (.cells #[.string f0, .int .i64 f1, .string f2, .int .i64 f3, .int .i64 sn, .int .i64 sd, .int .i64 on, .int .i64 od, .string f8] 55)).cell? ⟨w.heap.size, 5, none⟩ = some (.int .i64 sd) := blk_cell hB.b1 5
  have fa6 : (w3.alloc (.cells #[.string f0, .int .i64 f1, .string f2, .int .i64 f3, .int .i64 sn, .int .i64 sd, .int .i64 on, .int .i64 od, .string f8] 55)).cell? ⟨w.heap.size, 6, none⟩ = some (.int .i64 on) := blk_cell hB.b1 6
  have fa7 : (w3.alloc (.cells #[.string f0, .int .i64 f1, .string f2, .int .i64 f3, .int .i64 sn, .int .i64 sd, .int .i64 on, .int .i64 od, .string f8] 55)).cell? ⟨w.heap.size, 7, none⟩ = some (.int .i64 od) := blk_cell hB.b1 7
  have fa8 : (w3.alloc (.cells #[.string f0, .int .i64 f1, .string f2, .int .i64 f3, .int .i64 sn, .int .i64 sd, .int .i64 on, .int .i64 od, .string f8] 55)).cell? ⟨w.heap.size, 8, none⟩ = some (.string f8) := blk_cell hB.b1 8
  go_wp2_with fail
  clear fa0 fa1 fa2 fa3 fa4 fa5 fa6 fa7 fa8
  refine (of_calls f0 f1 f2 f3 sn sd on od f8 _).mono ?_
  rintro e w4 ⟨rfl, hb_⟩
  have z10 := blk_lt (blk_below k9 hb_)
  have hA : Ag w (w4.alloc (.cells #[.string f0, .int .i64 f1, .string f2, .int .i64 f3, .int .i64 sn, .int .i64 sd, .int .i64 on, .int .i64 od, .string f8] 55)) f0 f1 f2 f3 sn sd on od f8 w3.heap.size w4.heap.size sn sd on od f8 := ⟨(hB.step hb_).step (below_alloc (Below.refl _ _) _), blk_alloc (blk_below k9 hb_) _, blk_new w4 _⟩
  clear hB k9 hb_
  obtain ⟨p9, hp9⟩ : ∃ p, p = w3.heap.size := ⟨_, rfl⟩
  rw [← hp9] at hA z9 z10
  rw [← hp9]
  clear hp9
  have n1 : w.heap.size + 1 ≤ w4.heap.size := by omega
  have n2 : p9 ≠ w4.heap.size := by omega
  have fa0 : (w4.alloc (.cells #[.string f0, .int .i64 f1, .string f2, .int .i64 f3, .int .i64 sn, .int .i64 sd, .int .i64 on, .int .i64 od, .string f8] 55)).cell? ⟨p9, 0, none⟩ = some (.string f0) := blk_cell hA.k9 0
  have fa1 : (w4.alloc (.cells #[.string f0, .int .i64 f1, .string f2, .int .i64 f3, .int .i64 sn, .int .i64 sd, .int .i64 on, .int .i64 od, .string f8] 55)).cell? ⟨p9, 1, none⟩ = some (.int .i64 f1) := blk_cell hA.k9 1
  have fa2 : (w4.alloc (.cells #[.string f0, .int .i64 f1, .string f2, .int .i64 f3, .int .i64 sn, .int .i64 sd, .int .i64 on, .int .i64 od, .string f8] 55)).cell? ⟨p9, 2, none⟩ = some (.string f2) := blk_cell hA.k9 2
  have fa3 : (w4.alloc (.cells #[.string f0, .int .i64 f1, .string f2, .int .i64 f3, .int .i64 sn, .int .i64 sd, .int .i64 on, .int .i64 od, .string f8] 55)).cell? ⟨p9, 3, none⟩ = some (.int .i64 f3) := blk_cell hA.k9 3
  have fa4 : (w4.alloc (.cells #[.string f0, .int .i64 f1, .string f2, .int .i64 f3, .int .i64 sn, .int .i64 sd, .int .i64 on, .int .i64 od, .string f8] 55)).cell? ⟨p9, 4, none⟩ = some (.int .i64 sn) := blk_cell hA.k9 4
  have fa5 : (w4.alloc (.cells #[.string f0, .int .i64 f1, .string f2, .int .i64 f3, .int .i64 sn, .int .i64 sd, .int .i64 on, .int .i64 od, .string f8] 55)).cell? ⟨p9, 5, none⟩ = some (.int .i64 sd) := blk_cell hA.k9 5
  have fa6 : (w4.alloc (.cells #[.string f0, .int .i64 f1, .string f2, .int .i64 f3, .int .i64 sn, .int .i64 sd, .int .i64 on, .int .i64 od, .string f8] 55)).cell? ⟨p9, 6, none⟩ = some (.int .i64 on) := blk_cell hA.k9 6
  have fa7 : (w4.alloc (.cells #[.string f0, .int .i64 f1, .string f2, .int .i64 f3, .int .i64 sn, .int .i64 sd, .int .i64 on, .int .i64 od, .string f8] 55)).cell? ⟨p9, 7, none⟩ = some (.int .i64 od) := blk_cell hA.k9 7
  have fa8 : (w4.alloc (.cells #[.string f0, .int .i64 f1, .string f2, .int .i64 f3, .int .i64 sn, .int .i64 sd, .int .i64 on, .int .i64 od, .string f8] 55)).cell? ⟨p9, 8, none⟩ = some (.string f8) := blk_cell hA.k9 8
  go_wp2_with fail
  clear fa0 fa1 fa2 fa3 fa4 fa5 fa6 fa7 fa8
  obtain ⟨p10, hp10⟩ : ∃ p, p = w4.heap.size := ⟨_, rfl⟩
  obtain ⟨W5, hW5⟩ : ∃ W, W = w4.alloc (.cells #[.string f0, .int .i64 f1, .string f2, .int .i64 f3, .int .i64 sn, .int .i64 sd, .int .i64 on, .int .i64 od, .string f8] 55) := ⟨_, rfl⟩
  rw [← hW5, ← hp10] at hA
  rw [← hp10] at n1 n2 z10
  rw [← hW5, ← hp10]
  clear hW5 hp10
  refine (KN.out _).mono ?_
  rintro e w5 ⟨rfl, hb_⟩
  replace hA := (hA.step hb_).step (below_alloc (Below.refl _ _) (.cells #[.string u.label, .int .i64 u.code, .string u.unit, .int .i64 u.ln, .int .i64 u.ld, .int .i64 u.mn, .int .i64 u.md] 58))
  clear hb_
  have fa0 : (w5.alloc (.cells #[.string u.label, .int .i64 u.code, .string u.unit, .int .i64 u.ln, .int .i64 u.ld, .int .i64 u.mn, .int .i64 u.md] 58)).cell? ⟨p9, 0, none⟩ = some (.string f0) := blk_cell hA.k9 0
  have fa1 : (w5.alloc (.cells #[.string u.label, .int .i64 u.code, .string u.unit, .int .i64 u.ln, .int .i64 u.ld, .int .i64 u.mn, .int .i64 u.md] 58)).cell? ⟨p9, 1, none⟩ = some (.int .i64 f1) := blk_cell hA.k9 1
  have fa2 : (w5.alloc (.cells #[.string u.label, .int .i64 u.code, .string u.unit, .int .i64 u.ln, .int .i64 u.ld, .int .i64 u.mn, .int .i64 u.md] 58)).cell? ⟨p9, 2, none⟩ = some (.string f2) := blk_cell hA.k9 2
  have fa3 : (w5.alloc (.cells #[.string u.label, .int .i64 u.code, .string u.unit, .int .i64 u.ln, .int .i64 u.ld, .int .i64 u.mn, .int .i64 u.md] 58)).cell? ⟨p9, 3, none⟩ = some (.int .i64 f3) := blk_cell hA.k9 3
  have fa4 : (w5.alloc (.cells #[.string u.label, .int .i64 u.code, .string u.unit, .int .i64 u.ln, .int .i64 u.ld, .int .i64 u.mn, .int .i64 u.md] 58)).cell? ⟨p9, 4, none⟩ = some (.int .i64 sn) := blk_cell hA.k9 4
  have fa5 : (w5.alloc (.cells #[.string u.label, .int .i64 u.code, .string u.unit, .int .i64 u.ln, .int .i64 u.ld, .int .i64 u.mn, .int .i64 u.md] 58)).cell? ⟨p9, 5, none⟩ = some (.int .i64 sd) := blk_cell hA.k9 5
  have fa6 : (w5.alloc (.cells #[.string u.label, .int .i64 u.code, .string u.unit, .int .i64 u.ln, .int .i64 u.ld, .int .i64 u.mn, .int .i64 u.md] 58)).cell? ⟨p9, 6, none⟩ = some (.int .i64 on) := blk_cell hA.k9 6
  have fa7 : (w5.alloc (.cells #[.string u.label, .int .i64 u.code, .string u.unit, .int .i64 u.ln, .int .i64 u.ld, .int .i64 u.mn, .int .i64 u.md] 58)).cell? ⟨p9, 7, none⟩ = some (.int .i64 od) := blk_cell hA.k9 7
  have fa8 : (w5.alloc (.cells #[.string u.label, .int .i64 u.code, .string u.unit, .int .i64 u.ln, .int .i64 u.ld, .int .i64 u.mn, .int .i64 u.md] 58)).cell? ⟨p9, 8, none⟩ = some (.string f8) := blk_cell hA.k9 8
  go_wp2_with fail
  clear fa0 fa1 fa2 fa3 fa4 fa5 fa6 fa7 fa8
  refine (CA.out _).mono ?_
  rintro e w6 ⟨rfl, hb_⟩
  replace hA := (hA.step hb_).step (below_alloc (Below.refl _ _) (.cells #[.int .i64 a1, .int .i64 a2] 53))
  have k11 := blk_new w6 (.cells #[.int .i64 a1, .int .i64 a2] 53)
  clear hb_
  have fa0 : (w6.alloc (.cells #[.int .i64 a1, .int .i64 a2] 53)).cell? ⟨p9, 0, none⟩ = some (.string f0) := blk_cell hA.k9 0
  have fa1 : (w6.alloc (.cells #[.int .i64 a1, .int .i64 a2] 53)).cell? ⟨p9, 1, none⟩ = some (.int .i64 f1) := blk_cell hA.k9 1
  have fa2 : (w6.alloc (.cells #[.int .i64 a1, .int .i64 a2] 53)).cell? ⟨p9, 2, none⟩ = some (.string f2) := blk_cell hA.k9 2
  have fa3 : (w6.alloc (.cells #[.int .i64 a1, .int .i64 a2] 53)).cell? ⟨p9, 3, none⟩ = some (.int .i64 f3) := blk_cell hA.k9 3
  have fa4 : (w6.alloc (.cells #[.int .i64 a1, .int .i64 a2] 53)).cell? ⟨p9, 4, none⟩ = some (.int .i64 sn) := blk_cell hA.k9 4
  have fa5 : (w6.alloc (.cells #[.int .i64 a1, .int .i64 a2] 53)).cell? ⟨p9, 5, none⟩ = some (.int .i64 sd) := blk_cell hA.k9 5
  have fa6 : (w6.alloc (.cells #[.int .i64 a1, .int .i64 a2] 53)).cell? ⟨p9, 6, none⟩ = some (.int .i64 on) := blk_cell hA.k9 6
  have fa7 : (w6.alloc (.cells #[.int .i64 a1, .int .i64 a2] 53)).cell? ⟨p9, 7, none⟩ = some (.int .i64 od) := blk_cell hA.k9 7
  have fa8 : (w6.alloc (.cells #[.int .i64 a1, .int .i64 a2] 53)).cell? ⟨p9, 8, none⟩ = some (.string f8) := blk_cell hA.k9 8
  go_wp2_with fail
  clear fa0 fa1 fa2 fa3 fa4 fa5 fa6 fa7 fa8
  refine (CB.out _).mono ?_
  rintro e w7 ⟨rfl, hb_⟩
  replace k11 := blk_below (blk_below k11 hb_) (below_alloc (Below.refl _ _) (.cells #[.int .i64 b1, .int .i64 b2] 53))
  replace hA := (hA.step hb_).step (below_alloc (Below.refl _ _) (.cells #[.int .i64 b1, .int .i64 b2] 53))
  have k13 := blk_new w7 (.cells #[.int .i64 b1, .int .i64 b2] 53)
  clear hb_
  have fa0 : (w7.alloc (.cells #[.int .i64 b1, .int .i64 b2] 53)).cell? ⟨p9, 0, none⟩ = some (.string f0) := blk_cell hA.k9 0
  have fa1 : (w7.alloc (.cells #[.int .i64 b1, .int .i64 b2] 53)).cell? ⟨p9, 1, none⟩ = some (.int .i64 f1) := blk_cell hA.k9 1
  have fa2 : (w7.alloc (.cells #[.int .i64 b1, .int .i64 b2] 53)).cell? ⟨p9, 2, none⟩ = some (.string f2) := blk_cell hA.k9 2
  have fa3 : (w7.alloc (.cells #[.int .i64 b1, .int .i64 b2] 53)).cell? ⟨p9, 3, none⟩ = some (.int .i64 f3) := blk_cell hA.k9 3
  have fa4 : (w7.alloc (.cells #[.int .i64 b1, .int .i64 b2] 53)).cell? ⟨p9, 4, none⟩ = some (.int .i64 sn) := blk_cell hA.k9 4
  have fa5 : (w7.alloc (.cells #[.int .i64 b1, .int .i64 b2] 53)).cell? ⟨p9, 5, none⟩ = some (.int .i64 sd) := blk_cell hA.k9 5
  have fa6 : (w7.alloc (.cells #[.int .i64 b1, .int .i64 b2] 53)).cell? ⟨p9, 6, none⟩ = some (.int .i64 on) := blk_cell hA.k9 6
  have fa7 : (w7.alloc (.cells #[.int .i64 b1, .int .i64 b2] 53)).cell? ⟨p9, 7, none⟩ = some (.int .i64 od) := blk_cell hA.k9 7
  have fa8 : (w7.alloc (.cells #[.int .i64 b1, .int .i64 b2] 53)).cell? ⟨p9, 8, none⟩ = some (.string f8) := blk_cell hA.k9 8
  go_wp2_with fail
  clear fa0 fa1 fa2 fa3 fa4 fa5 fa6 fa7 fa8
  refine (CC.out _).mono ?_
  rintro e w8 ⟨rfl, hb_⟩
  replace k11 := blk_below (blk_below k11 hb_) (below_alloc (Below.refl _ _) (.cells #[.int .i64 c1, .int .i64 c2] 53))
  replace k13 := blk_below (blk_below k13 hb_) (below_alloc (Below.refl _ _) (.cells #[.int .i64 c1, .int .i64 c2] 53))
  replace hA := (hA.step hb_).step (below_alloc (Below.refl _ _) (.cells #[.int .i64 c1, .int .i64 c2] 53))
  have k15 := blk_new w8 (.cells #[.int .i64 c1, .int .i64 c2] 53)
  clear hb_
  obtain ⟨p11, hp11⟩ : ∃ p, p = w6.heap.size := ⟨_, rfl⟩
  obtain ⟨p13, hp13⟩ : ∃ p, p = w7.heap.size := ⟨_, rfl⟩
  rw [← hp11] at k11
  rw [← hp13] at k13
  rw [← hp11, ← hp13]
  clear hp11 hp13
  cases kb with
  | false =>
    go_wp2_with fail
    go_ret
    exact ⟨rfl, hA.b.be⟩
  | true =>
  have hu := KU.out rfl
  have HU := Lib.hid hu
  clear KU hu
  by_cases m1 : a3 = 0
  · by_cases m2 : b3 = 0
    · by_cases m3 : c3 = 0
      · subst m1 m2 m3
        have d0 : (w8.alloc (.cells #[.int .i64 c1, .int .i64 c2] 53)).cell? ⟨p13, 0, none⟩ = some (.int .i64 b1) := blk_cell k13 0
        have d1 : (w8.alloc (.cells #[.int .i64 c1, .int .i64 c2] 53)).cell? ⟨p13, 1, none⟩ = some (.int .i64 b2) := blk_cell k13 1
        by_cases m4 : b1 = -9223372036854775808
        · have t4 : (b1 == -9223372036854775808) = true := by simp [m4]
          clear m4
          go_wp2_with fail
          go_ret
          exact ⟨rfl, hA.b.be⟩
        · have t4 : (b1 == -9223372036854775808) = false := by simp [m4]
          have inb : I64 (-b1) := by unfold I64 at *; omega
          have eno : IntKind.i64.wrap (-b1) = -b1 := by rw [i64_w]; exact wrap_in inb
          have hadd := fun w => add_calls ia1 ia2 inb ib2 w
          obtain ⟨_, _, _, _, _, ra, _⟩ := conv_ok (conv_Rt EA.out) EA.out
          obtain ⟨_, _, _, _, _, rb, _⟩ := conv_ok (Rt_one 0) EB.out
          have rnb := Rt_neg rb
          have iadd := add_In ra rnb
          obtain ⟨M, hM⟩ : ∃ M, addR a1 a2 (-b1) b2 = M := ⟨_, rfl⟩
          simp only [told_outA (P := Rt a1 a2 ∧ Rt (-b1) b2) ⟨ra, rnb⟩, hM, ans] at hadd
          rw [hM] at iadd
          have HADD := Lib.hid hadd
          have HM := Lib.hid hM
          have IA := Lib.hid iadd
          clear hadd hM iadd ra rb rnb m4 inb
          have kc0 : (w8.alloc (.cells #[.int .i64 c1, .int .i64 c2] 53)).cell? ⟨p11, 0, none⟩ = some (.int .i64 a1) := blk_cell k11 0
          have kc1 : (w8.alloc (.cells #[.int .i64 c1, .int .i64 c2] 53)).cell? ⟨p11, 1, none⟩ = some (.int .i64 a2) := blk_cell k11 1
          go_wp2_with fail
          clear kc0 kc1 d0 d1 eno t4
          obtain ⟨p15, hp15⟩ : ∃ p, p = w8.heap.size := ⟨_, rfl⟩
          obtain ⟨W8, hW8⟩ : ∃ W, W = w8.alloc (.cells #[.int .i64 c1, .int .i64 c2] 53) := ⟨_, rfl⟩
          rw [← hW8] at hA k11 k13 k15
          rw [← hp15] at k15
          rw [← hp15, ← hW8]
          clear hp15 hW8
          cases M with
          | none =>
            have cc := HADD.out
            simp only [outA] at cc
            refine (cc _).mono ?_
            rintro e w9 ⟨rfl, hb_⟩
            have hBe := (hA.step hb_).b.step (below_alloc (Below.refl _ _) (.cells #[.int .i64 0, .int .i64 0] 53))
            go_wp2_with fail
            go_ret
            exact ⟨rfl, hBe.be⟩
          | some s =>
            obtain ⟨s1, s2⟩ := s
            have cc := HADD.out
            simp only [outA] at cc
            obtain ⟨is1, is2⟩ := IA.out _ rfl
            dsimp only at is1 is2
            obtain ⟨v1, v2, j, i1, ev, hv, cv⟩ := of_known f0 f1 f2 f3 sn sd on od f8 raw ok u HU.out hz hsn hsd hon hod hraw
            obtain ⟨w1', w2', k, i2, ew, hw, cw⟩ := of_known f0 f1 f2 f3 s1 s2 c1 c2 u2 raw ok u HU.out hz is1 is2 ic1 ic2 hraw
            have hfit := again EA.out EB.out EC.out HM.out ev ew
            have hal := alike (i1 := i1) (i2 := i2) (ok := ok) hfit (fun e1 e2 e3 e4 => by rw [hv e1, hw e2, e3, e4])
            obtain ⟨c0, hc0⟩ : ∃ c0, u.code = c0 := ⟨_, rfl⟩
            obtain ⟨X, hX⟩ : ∃ X, (Unit.find u.unit).getD Unit.zrow = X := ⟨_, rfl⟩
            simp only [hc0, hX] at cv cw
            have CV := Lib.hid cv
            have CW := Lib.hid cw
            have HF := Lib.hid hal
            clear cv cw hfit hal ev ew hv hw EA EB EC HM IA hc0 hX
            refine (cc _).mono ?_
            rintro e w9 ⟨rfl, hb_⟩
            clear cc HADD
            replace k15 := blk_below (blk_below k15 hb_) (below_alloc (Below.refl _ _) (.cells #[.int .i64 s1, .int .i64 s2] 53))
            replace hA := (hA.step hb_).step (below_alloc (Below.refl _ _) (.cells #[.int .i64 s1, .int .i64 s2] 53))
            have k17 := blk_new w9 (.cells #[.int .i64 s1, .int .i64 s2] 53)
            clear hb_ k11 k13
            have n3 : p15 ≠ p10 := blk_ne k15 hA.k10 (by decide)
            have n4 : w9.heap.size ≠ p10 := blk_ne k17 hA.k10 (by decide)
            have h8 := hA.put8 n1 n2 u2
            have k17a := blk_far k17 (p := ⟨p10, 8, none⟩) n4 (.string u2)
            have h4 := h8.put4 n1 n2 s1
            have h5 := h4.put5 n1 n2 s2
            have h6 := h5.put6 n1 n2 c1
            have h7 := h6.put7 n1 n2 c2
            have k15b := blk_far (blk_far (blk_far k15 (p := ⟨p10, 8, none⟩) n3 (.string u2)) (p := ⟨p10, 4, none⟩) n3 (.int .i64 s1)) (p := ⟨p10, 5, none⟩) n3 (.int .i64 s2)
            have y0 : (w9.alloc (.cells #[.int .i64 s1, .int .i64 s2] 53)).cell? ⟨p10, 0, none⟩ = some (.string f0) := blk_cell hA.k10 0
            have yf0 : (w9.alloc (.cells #[.int .i64 s1, .int .i64 s2] 53)).frozen? ⟨p10, 0, none⟩ = false := blk_frozen hA.k10 0
            have y1 : (w9.alloc (.cells #[.int .i64 s1, .int .i64 s2] 53)).cell? ⟨p10, 1, none⟩ = some (.int .i64 f1) := blk_cell hA.k10 1
            have yf1 : (w9.alloc (.cells #[.int .i64 s1, .int .i64 s2] 53)).frozen? ⟨p10, 1, none⟩ = false := blk_frozen hA.k10 1
            have y2 : (w9.alloc (.cells #[.int .i64 s1, .int .i64 s2] 53)).cell? ⟨p10, 2, none⟩ = some (.string f2) := blk_cell hA.k10 2
            have yf2 : (w9.alloc (.cells #[.int .i64 s1, .int .i64 s2] 53)).frozen? ⟨p10, 2, none⟩ = false := blk_frozen hA.k10 2
            have y3 : (w9.alloc (.cells #[.int .i64 s1, .int .i64 s2] 53)).cell? ⟨p10, 3, none⟩ = some (.int .i64 f3) := blk_cell hA.k10 3
            have yf3 : (w9.alloc (.cells #[.int .i64 s1, .int .i64 s2] 53)).frozen? ⟨p10, 3, none⟩ = false := blk_frozen hA.k10 3
            have y4 : (w9.alloc (.cells #[.int .i64 s1, .int .i64 s2] 53)).cell? ⟨p10, 4, none⟩ = some (.int .i64 sn) := blk_cell hA.k10 4
            have yf4 : (w9.alloc (.cells #[.int .i64 s1, .int .i64 s2] 53)).frozen? ⟨p10, 4, none⟩ = false := blk_frozen hA.k10 4
            have y5 : (w9.alloc (.cells #[.int .i64 s1, .int .i64 s2] 53)).cell? ⟨p10, 5, none⟩ = some (.int .i64 sd) := blk_cell hA.k10 5
            have yf5 : (w9.alloc (.cells #[.int .i64 s1, .int .i64 s2] 53)).frozen? ⟨p10, 5, none⟩ = false := blk_frozen hA.k10 5
            have y6 : (w9.alloc (.cells #[.int .i64 s1, .int .i64 s2] 53)).cell? ⟨p10, 6, none⟩ = some (.int .i64 on) := blk_cell hA.k10 6
            have yf6 : (w9.alloc (.cells #[.int .i64 s1, .int .i64 s2] 53)).frozen? ⟨p10, 6, none⟩ = false := blk_frozen hA.k10 6
            have y7 : (w9.alloc (.cells #[.int .i64 s1, .int .i64 s2] 53)).cell? ⟨p10, 7, none⟩ = some (.int .i64 od) := blk_cell hA.k10 7
            have yf7 : (w9.alloc (.cells #[.int .i64 s1, .int .i64 s2] 53)).frozen? ⟨p10, 7, none⟩ = false := blk_frozen hA.k10 7
            have y8 : (w9.alloc (.cells #[.int .i64 s1, .int .i64 s2] 53)).cell? ⟨p10, 8, none⟩ = some (.string f8) := blk_cell hA.k10 8
            have yf8 : (w9.alloc (.cells #[.int .i64 s1, .int .i64 s2] 53)).frozen? ⟨p10, 8, none⟩ = false := blk_frozen hA.k10 8
            have kc0 : ((w9.alloc (.cells #[.int .i64 s1, .int .i64 s2] 53)).setCell ⟨p10, 8, none⟩ (.string u2)).cell? ⟨w9.heap.size, 0, none⟩ = some (.int .i64 s1) := blk_cell k17a 0
            have kc1 : ((w9.alloc (.cells #[.int .i64 s1, .int .i64 s2] 53)).setCell ⟨p10, 8, none⟩ (.string u2)).cell? ⟨w9.heap.size, 1, none⟩ = some (.int .i64 s2) := blk_cell k17a 1
            have g0 : ((w9.alloc (.cells #[.int .i64 s1, .int .i64 s2] 53)).setCell ⟨p10, 8, none⟩ (.string u2)).cell? ⟨p10, 0, none⟩ = some (.string f0) := blk_cell h8.k10 0
            have gf0 : ((w9.alloc (.cells #[.int .i64 s1, .int .i64 s2] 53)).setCell ⟨p10, 8, none⟩ (.string u2)).frozen? ⟨p10, 0, none⟩ = false := blk_frozen h8.k10 0
            have g1 : ((w9.alloc (.cells #[.int .i64 s1, .int .i64 s2] 53)).setCell ⟨p10, 8, none⟩ (.string u2)).cell? ⟨p10, 1, none⟩ = some (.int .i64 f1) := blk_cell h8.k10 1
            have gf1 : ((w9.alloc (.cells #[.int .i64 s1, .int .i64 s2] 53)).setCell ⟨p10, 8, none⟩ (.string u2)).frozen? ⟨p10, 1, none⟩ = false := blk_frozen h8.k10 1
            have g2 : ((w9.alloc (.cells #[.int .i64 s1, .int .i64 s2] 53)).setCell ⟨p10, 8, none⟩ (.string u2)).cell? ⟨p10, 2, none⟩ = some (.string f2) := blk_cell h8.k10 2
            have gf2 : ((w9.alloc (.cells #[.int .i64 s1, .int .i64 s2] 53)).setCell ⟨p10, 8, none⟩ (.string u2)).frozen? ⟨p10, 2, none⟩ = false := blk_frozen h8.k10 2
            have g3 : ((w9.alloc (.cells #[.int .i64 s1, .int .i64 s2] 53)).setCell ⟨p10, 8, none⟩ (.string u2)).cell? ⟨p10, 3, none⟩ = some (.int .i64 f3) := blk_cell h8.k10 3
            have gf3 : ((w9.alloc (.cells #[.int .i64 s1, .int .i64 s2] 53)).setCell ⟨p10, 8, none⟩ (.string u2)).frozen? ⟨p10, 3, none⟩ = false := blk_frozen h8.k10 3
            have g4 : ((w9.alloc (.cells #[.int .i64 s1, .int .i64 s2] 53)).setCell ⟨p10, 8, none⟩ (.string u2)).cell? ⟨p10, 4, none⟩ = some (.int .i64 sn) := blk_cell h8.k10 4
            have gf4 : ((w9.alloc (.cells #[.int .i64 s1, .int .i64 s2] 53)).setCell ⟨p10, 8, none⟩ (.string u2)).frozen? ⟨p10, 4, none⟩ = false := blk_frozen h8.k10 4
            have g5 : ((w9.alloc (.cells #[.int .i64 s1, .int .i64 s2] 53)).setCell ⟨p10, 8, none⟩ (.string u2)).cell? ⟨p10, 5, none⟩ = some (.int .i64 sd) := blk_cell h8.k10 5
            have gf5 : ((w9.alloc (.cells #[.int .i64 s1, .int .i64 s2] 53)).setCell ⟨p10, 8, none⟩ (.string u2)).frozen? ⟨p10, 5, none⟩ = false := blk_frozen h8.k10 5
            have g6 : ((w9.alloc (.cells #[.int .i64 s1, .int .i64 s2] 53)).setCell ⟨p10, 8, none⟩ (.string u2)).cell? ⟨p10, 6, none⟩ = some (.int .i64 on) := blk_cell h8.k10 6
            have gf6 : ((w9.alloc (.cells #[.int .i64 s1, .int .i64 s2] 53)).setCell ⟨p10, 8, none⟩ (.string u2)).frozen? ⟨p10, 6, none⟩ = false := blk_frozen h8.k10 6
            have g7 : ((w9.alloc (.cells #[.int .i64 s1, .int .i64 s2] 53)).setCell ⟨p10, 8, none⟩ (.string u2)).cell? ⟨p10, 7, none⟩ = some (.int .i64 od) := blk_cell h8.k10 7
            have gf7 : ((w9.alloc (.cells #[.int .i64 s1, .int .i64 s2] 53)).setCell ⟨p10, 8, none⟩ (.string u2)).frozen? ⟨p10, 7, none⟩ = false := blk_frozen h8.k10 7
            have g8 : ((w9.alloc (.cells #[.int .i64 s1, .int .i64 s2] 53)).setCell ⟨p10, 8, none⟩ (.string u2)).cell? ⟨p10, 8, none⟩ = some (.string u2) := blk_cell h8.k10 8
            have gf8 : ((w9.alloc (.cells #[.int .i64 s1, .int .i64 s2] 53)).setCell ⟨p10, 8, none⟩ (.string u2)).frozen? ⟨p10, 8, none⟩ = false := blk_frozen h8.k10 8
            have h0 : ((((w9.alloc (.cells #[.int .i64 s1, .int .i64 s2] 53)).setCell ⟨p10, 8, none⟩ (.string u2)).setCell ⟨p10, 4, none⟩ (.int .i64 s1)).setCell ⟨p10, 5, none⟩ (.int .i64 s2)).cell? ⟨p15, 0, none⟩ = some (.int .i64 c1) := blk_cell k15b 0
            have h1 : ((((w9.alloc (.cells #[.int .i64 s1, .int .i64 s2] 53)).setCell ⟨p10, 8, none⟩ (.string u2)).setCell ⟨p10, 4, none⟩ (.int .i64 s1)).setCell ⟨p10, 5, none⟩ (.int .i64 s2)).cell? ⟨p15, 1, none⟩ = some (.int .i64 c2) := blk_cell k15b 1
            have x0 : ((((w9.alloc (.cells #[.int .i64 s1, .int .i64 s2] 53)).setCell ⟨p10, 8, none⟩ (.string u2)).setCell ⟨p10, 4, none⟩ (.int .i64 s1)).setCell ⟨p10, 5, none⟩ (.int .i64 s2)).cell? ⟨p10, 0, none⟩ = some (.string f0) := blk_cell h5.k10 0
            have xf0 : ((((w9.alloc (.cells #[.int .i64 s1, .int .i64 s2] 53)).setCell ⟨p10, 8, none⟩ (.string u2)).setCell ⟨p10, 4, none⟩ (.int .i64 s1)).setCell ⟨p10, 5, none⟩ (.int .i64 s2)).frozen? ⟨p10, 0, none⟩ = false := blk_frozen h5.k10 0
            have x1 : ((((w9.alloc (.cells #[.int .i64 s1, .int .i64 s2] 53)).setCell ⟨p10, 8, none⟩ (.string u2)).setCell ⟨p10, 4, none⟩ (.int .i64 s1)).setCell ⟨p10, 5, none⟩ (.int .i64 s2)).cell? ⟨p10, 1, none⟩ = some (.int .i64 f1) := blk_cell h5.k10 1
            have xf1 : ((((w9.alloc (.cells #[.int .i64 s1, .int .i64 s2] 53)).setCell ⟨p10, 8, none⟩ (.string u2)).setCell ⟨p10, 4, none⟩ (.int .i64 s1)).setCell ⟨p10, 5, none⟩ (.int .i64 s2)).frozen? ⟨p10, 1, none⟩ = false := blk_frozen h5.k10 1
            have x2 : ((((w9.alloc (.cells #[.int .i64 s1, .int .i64 s2] 53)).setCell ⟨p10, 8, none⟩ (.string u2)).setCell ⟨p10, 4, none⟩ (.int .i64 s1)).setCell ⟨p10, 5, none⟩ (.int .i64 s2)).cell? ⟨p10, 2, none⟩ = some (.string f2) := blk_cell h5.k10 2
            have xf2 : ((((w9.alloc (.cells #[.int .i64 s1, .int .i64 s2] 53)).setCell ⟨p10, 8, none⟩ (.string u2)).setCell ⟨p10, 4, none⟩ (.int .i64 s1)).setCell ⟨p10, 5, none⟩ (.int .i64 s2)).frozen? ⟨p10, 2, none⟩ = false := blk_frozen h5.k10 2
            have x3 : ((((w9.alloc (.cells #[.int .i64 s1, .int .i64 s2] 53)).setCell ⟨p10, 8, none⟩ (.string u2)).setCell ⟨p10, 4, none⟩ (.int .i64 s1)).setCell ⟨p10, 5, none⟩ (.int .i64 s2)).cell? ⟨p10, 3, none⟩ = some (.int .i64 f3) := blk_cell h5.k10 3
            have xf3 : ((((w9.alloc (.cells #[.int .i64 s1, .int .i64 s2] 53)).setCell ⟨p10, 8, none⟩ (.string u2)).setCell ⟨p10, 4, none⟩ (.int .i64 s1)).setCell ⟨p10, 5, none⟩ (.int .i64 s2)).frozen? ⟨p10, 3, none⟩ = false := blk_frozen h5.k10 3
            have x4 : ((((w9.alloc (.cells #[.int .i64 s1, .int .i64 s2] 53)).setCell ⟨p10, 8, none⟩ (.string u2)).setCell ⟨p10, 4, none⟩ (.int .i64 s1)).setCell ⟨p10, 5, none⟩ (.int .i64 s2)).cell? ⟨p10, 4, none⟩ = some (.int .i64 s1) := blk_cell h5.k10 4
            have xf4 : ((((w9.alloc (.cells #[.int .i64 s1, .int .i64 s2] 53)).setCell ⟨p10, 8, none⟩ (.string u2)).setCell ⟨p10, 4, none⟩ (.int .i64 s1)).setCell ⟨p10, 5, none⟩ (.int .i64 s2)).frozen? ⟨p10, 4, none⟩ = false := blk_frozen h5.k10 4
            have x5 : ((((w9.alloc (.cells #[.int .i64 s1, .int .i64 s2] 53)).setCell ⟨p10, 8, none⟩ (.string u2)).setCell ⟨p10, 4, none⟩ (.int .i64 s1)).setCell ⟨p10, 5, none⟩ (.int .i64 s2)).cell? ⟨p10, 5, none⟩ = some (.int .i64 s2) := blk_cell h5.k10 5
            have xf5 : ((((w9.alloc (.cells #[.int .i64 s1, .int .i64 s2] 53)).setCell ⟨p10, 8, none⟩ (.string u2)).setCell ⟨p10, 4, none⟩ (.int .i64 s1)).setCell ⟨p10, 5, none⟩ (.int .i64 s2)).frozen? ⟨p10, 5, none⟩ = false := blk_frozen h5.k10 5
            have x6 : ((((w9.alloc (.cells #[.int .i64 s1, .int .i64 s2] 53)).setCell ⟨p10, 8, none⟩ (.string u2)).setCell ⟨p10, 4, none⟩ (.int .i64 s1)).setCell ⟨p10, 5, none⟩ (.int .i64 s2)).cell? ⟨p10, 6, none⟩ = some (.int .i64 on) := blk_cell h5.k10 6
            have xf6 : ((((w9.alloc (.cells #[.int .i64 s1, .int .i64 s2] 53)).setCell ⟨p10, 8, none⟩ (.string u2)).setCell ⟨p10, 4, none⟩ (.int .i64 s1)).setCell ⟨p10, 5, none⟩ (.int .i64 s2)).frozen? ⟨p10, 6, none⟩ = false := blk_frozen h5.k10 6
            have x7 : ((((w9.alloc (.cells #[.int .i64 s1, .int .i64 s2] 53)).setCell ⟨p10, 8, none⟩ (.string u2)).setCell ⟨p10, 4, none⟩ (.int .i64 s1)).setCell ⟨p10, 5, none⟩ (.int .i64 s2)).cell? ⟨p10, 7, none⟩ = some (.int .i64 od) := blk_cell h5.k10 7
            have xf7 : ((((w9.alloc (.cells #[.int .i64 s1, .int .i64 s2] 53)).setCell ⟨p10, 8, none⟩ (.string u2)).setCell ⟨p10, 4, none⟩ (.int .i64 s1)).setCell ⟨p10, 5, none⟩ (.int .i64 s2)).frozen? ⟨p10, 7, none⟩ = false := blk_frozen h5.k10 7
            have x8 : ((((w9.alloc (.cells #[.int .i64 s1, .int .i64 s2] 53)).setCell ⟨p10, 8, none⟩ (.string u2)).setCell ⟨p10, 4, none⟩ (.int .i64 s1)).setCell ⟨p10, 5, none⟩ (.int .i64 s2)).cell? ⟨p10, 8, none⟩ = some (.string u2) := blk_cell h5.k10 8
            have xf8 : ((((w9.alloc (.cells #[.int .i64 s1, .int .i64 s2] 53)).setCell ⟨p10, 8, none⟩ (.string u2)).setCell ⟨p10, 4, none⟩ (.int .i64 s1)).setCell ⟨p10, 5, none⟩ (.int .i64 s2)).frozen? ⟨p10, 8, none⟩ = false := blk_frozen h5.k10 8
            have fa0 : ((((((w9.alloc (.cells #[.int .i64 s1, .int .i64 s2] 53)).setCell ⟨p10, 8, none⟩ (.string u2)).setCell ⟨p10, 4, none⟩ (.int .i64 s1)).setCell ⟨p10, 5, none⟩ (.int .i64 s2)).setCell ⟨p10, 6, none⟩ (.int .i64 c1)).setCell ⟨p10, 7, none⟩ (.int .i64 c2)).cell? ⟨p9, 0, none⟩ = some (.string f0) := blk_cell h7.k9 0
            have fa1 : ((((((w9.alloc (.cells #[.int .i64 s1, .int .i64 s2] 53)).setCell ⟨p10, 8, none⟩ (.string u2)).setCell ⟨p10, 4, none⟩ (.int .i64 s1)).setCell ⟨p10, 5, none⟩ (.int .i64 s2)).setCell ⟨p10, 6, none⟩ (.int .i64 c1)).setCell ⟨p10, 7, none⟩ (.int .i64 c2)).cell? ⟨p9, 1, none⟩ = some (.int .i64 f1) := blk_cell h7.k9 1
            have fa2 : ((((((w9.alloc (.cells #[.int .i64 s1, .int .i64 s2] 53)).setCell ⟨p10, 8, none⟩ (.string u2)).setCell ⟨p10, 4, none⟩ (.int .i64 s1)).setCell ⟨p10, 5, none⟩ (.int .i64 s2)).setCell ⟨p10, 6, none⟩ (.int .i64 c1)).setCell ⟨p10, 7, none⟩ (.int .i64 c2)).cell? ⟨p9, 2, none⟩ = some (.string f2) := blk_cell h7.k9 2
            have fa3 : ((((((w9.alloc (.cells #[.int .i64 s1, .int .i64 s2] 53)).setCell ⟨p10, 8, none⟩ (.string u2)).setCell ⟨p10, 4, none⟩ (.int .i64 s1)).setCell ⟨p10, 5, none⟩ (.int .i64 s2)).setCell ⟨p10, 6, none⟩ (.int .i64 c1)).setCell ⟨p10, 7, none⟩ (.int .i64 c2)).cell? ⟨p9, 3, none⟩ = some (.int .i64 f3) := blk_cell h7.k9 3
            have fa4 : ((((((w9.alloc (.cells #[.int .i64 s1, .int .i64 s2] 53)).setCell ⟨p10, 8, none⟩ (.string u2)).setCell ⟨p10, 4, none⟩ (.int .i64 s1)).setCell ⟨p10, 5, none⟩ (.int .i64 s2)).setCell ⟨p10, 6, none⟩ (.int .i64 c1)).setCell ⟨p10, 7, none⟩ (.int .i64 c2)).cell? ⟨p9, 4, none⟩ = some (.int .i64 sn) := blk_cell h7.k9 4
            have fa5 : ((((((w9.alloc (.cells #[.int .i64 s1, .int .i64 s2] 53)).setCell ⟨p10, 8, none⟩ (.string u2)).setCell ⟨p10, 4, none⟩ (.int .i64 s1)).setCell ⟨p10, 5, none⟩ (.int .i64 s2)).setCell ⟨p10, 6, none⟩ (.int .i64 c1)).setCell ⟨p10, 7, none⟩ (.int .i64 c2)).cell? ⟨p9, 5, none⟩ = some (.int .i64 sd) := blk_cell h7.k9 5
            have fa6 : ((((((w9.alloc (.cells #[.int .i64 s1, .int .i64 s2] 53)).setCell ⟨p10, 8, none⟩ (.string u2)).setCell ⟨p10, 4, none⟩ (.int .i64 s1)).setCell ⟨p10, 5, none⟩ (.int .i64 s2)).setCell ⟨p10, 6, none⟩ (.int .i64 c1)).setCell ⟨p10, 7, none⟩ (.int .i64 c2)).cell? ⟨p9, 6, none⟩ = some (.int .i64 on) := blk_cell h7.k9 6
            have fa7 : ((((((w9.alloc (.cells #[.int .i64 s1, .int .i64 s2] 53)).setCell ⟨p10, 8, none⟩ (.string u2)).setCell ⟨p10, 4, none⟩ (.int .i64 s1)).setCell ⟨p10, 5, none⟩ (.int .i64 s2)).setCell ⟨p10, 6, none⟩ (.int .i64 c1)).setCell ⟨p10, 7, none⟩ (.int .i64 c2)).cell? ⟨p9, 7, none⟩ = some (.int .i64 od) := blk_cell h7.k9 7
            have fa8 : ((((((w9.alloc (.cells #[.int .i64 s1, .int .i64 s2] 53)).setCell ⟨p10, 8, none⟩ (.string u2)).setCell ⟨p10, 4, none⟩ (.int .i64 s1)).setCell ⟨p10, 5, none⟩ (.int .i64 s2)).setCell ⟨p10, 6, none⟩ (.int .i64 c1)).setCell ⟨p10, 7, none⟩ (.int .i64 c2)).cell? ⟨p9, 8, none⟩ = some (.string f8) := blk_cell h7.k9 8
            have hA := h7
            clear k15 k17 k15b k17a h4 h5 h6 h7 h8
            go_wp2_with fail
            clear kc0 kc1 h0 h1 n3 n4 y0 yf0 y1 yf1 y2 yf2 y3 yf3 y4 yf4 y5 yf5 y6 yf6 y7 yf7 y8 yf8 x0 xf0 x1 xf1 x2 xf2 x3 xf3 x4 xf4 x5 xf5 x6 xf6 x7 xf7 x8 xf8 g0 gf0 g1 gf1 g2 gf2 g3 gf3 g4 gf4 g5 gf5 g6 gf6 g7 gf7 g8 gf8 fa0 fa1 fa2 fa3 fa4 fa5 fa6 fa7 fa8
            obtain ⟨WD, hWD⟩ : ∃ W, W = ((((((w9.alloc (.cells #[.int .i64 s1, .int .i64 s2] 53)).setCell ⟨p10, 8, none⟩ (.string u2)).setCell ⟨p10, 4, none⟩ (.int .i64 s1)).setCell ⟨p10, 5, none⟩ (.int .i64 s2)).setCell ⟨p10, 6, none⟩ (.int .i64 c1)).setCell ⟨p10, 7, none⟩ (.int .i64 c2)) := ⟨_, rfl⟩
            rw [← hWD] at hA
            rw [← hWD]
            clear hWD
            refine (CV.out _).mono ?_
            rintro e w10 ⟨rfl, hb_⟩
            replace hA := (hA.step hb_).step (below_alloc (Below.refl _ _) (.cells #[.int .i64 1, .string f0, .int .i64 c0, .int .i64 X.code, .int .i64 (obsN ok j v1), .int .i64 (obsN ok j v2), .int .i64 (obsF ok j i1), .int .i64 2] 65))
            have k21 := blk_new w10 (.cells #[.int .i64 1, .string f0, .int .i64 c0, .int .i64 X.code, .int .i64 (obsN ok j v1), .int .i64 (obsN ok j v2), .int .i64 (obsF ok j i1), .int .i64 2] 65)
            clear hb_
            have o0 : (w10.alloc (.cells #[.int .i64 1, .string f0, .int .i64 c0, .int .i64 X.code, .int .i64 (obsN ok j v1), .int .i64 (obsN ok j v2), .int .i64 (obsF ok j i1), .int .i64 2] 65)).cell? ⟨p10, 0, none⟩ = some (.string f0) := blk_cell hA.k10 0
            have o1 : (w10.alloc (.cells #[.int .i64 1, .string f0, .int .i64 c0, .int .i64 X.code, .int .i64 (obsN ok j v1), .int .i64 (obsN ok j v2), .int .i64 (obsF ok j i1), .int .i64 2] 65)).cell? ⟨p10, 1, none⟩ = some (.int .i64 f1) := blk_cell hA.k10 1
            have o2 : (w10.alloc (.cells #[.int .i64 1, .string f0, .int .i64 c0, .int .i64 X.code, .int .i64 (obsN ok j v1), .int .i64 (obsN ok j v2), .int .i64 (obsF ok j i1), .int .i64 2] 65)).cell? ⟨p10, 2, none⟩ = some (.string f2) := blk_cell hA.k10 2
            have o3 : (w10.alloc (.cells #[.int .i64 1, .string f0, .int .i64 c0, .int .i64 X.code, .int .i64 (obsN ok j v1), .int .i64 (obsN ok j v2), .int .i64 (obsF ok j i1), .int .i64 2] 65)).cell? ⟨p10, 3, none⟩ = some (.int .i64 f3) := blk_cell hA.k10 3
            have o4 : (w10.alloc (.cells #[.int .i64 1, .string f0, .int .i64 c0, .int .i64 X.code, .int .i64 (obsN ok j v1), .int .i64 (obsN ok j v2), .int .i64 (obsF ok j i1), .int .i64 2] 65)).cell? ⟨p10, 4, none⟩ = some (.int .i64 s1) := blk_cell hA.k10 4
            have o5 : (w10.alloc (.cells #[.int .i64 1, .string f0, .int .i64 c0, .int .i64 X.code, .int .i64 (obsN ok j v1), .int .i64 (obsN ok j v2), .int .i64 (obsF ok j i1), .int .i64 2] 65)).cell? ⟨p10, 5, none⟩ = some (.int .i64 s2) := blk_cell hA.k10 5
            have o6 : (w10.alloc (.cells #[.int .i64 1, .string f0, .int .i64 c0, .int .i64 X.code, .int .i64 (obsN ok j v1), .int .i64 (obsN ok j v2), .int .i64 (obsF ok j i1), .int .i64 2] 65)).cell? ⟨p10, 6, none⟩ = some (.int .i64 c1) := blk_cell hA.k10 6
            have o7 : (w10.alloc (.cells #[.int .i64 1, .string f0, .int .i64 c0, .int .i64 X.code, .int .i64 (obsN ok j v1), .int .i64 (obsN ok j v2), .int .i64 (obsF ok j i1), .int .i64 2] 65)).cell? ⟨p10, 7, none⟩ = some (.int .i64 c2) := blk_cell hA.k10 7
            have o8 : (w10.alloc (.cells #[.int .i64 1, .string f0, .int .i64 c0, .int .i64 X.code, .int .i64 (obsN ok j v1), .int .i64 (obsN ok j v2), .int .i64 (obsF ok j i1), .int .i64 2] 65)).cell? ⟨p10, 8, none⟩ = some (.string u2) := blk_cell hA.k10 8
            go_wp2_with fail
            clear o0 o1 o2 o3 o4 o5 o6 o7 o8
            refine (CW.out _).mono ?_
            rintro e w11 ⟨rfl, hb_⟩
            replace k21 := blk_below (blk_below k21 hb_) (below_alloc (Below.refl _ _) (.cells #[.int .i64 1, .string f0, .int .i64 c0, .int .i64 X.code, .int .i64 (obsN ok k w1'), .int .i64 (obsN ok k w2'), .int .i64 (obsF ok k i2), .int .i64 2] 65))
            replace hA := (hA.step hb_).step (below_alloc (Below.refl _ _) (.cells #[.int .i64 1, .string f0, .int .i64 c0, .int .i64 X.code, .int .i64 (obsN ok k w1'), .int .i64 (obsN ok k w2'), .int .i64 (obsF ok k i2), .int .i64 2] 65))
            have k22 := blk_new w11 (.cells #[.int .i64 1, .string f0, .int .i64 c0, .int .i64 X.code, .int .i64 (obsN ok k w1'), .int .i64 (obsN ok k w2'), .int .i64 (obsF ok k i2), .int .i64 2] 65)
            clear hb_
            have hF := HF.out
            clear HF CV CW
            have zz := hA.b.be
            have y0 : (w11.alloc (.cells #[.int .i64 1, .string f0, .int .i64 c0, .int .i64 X.code, .int .i64 (obsN ok k w1'), .int .i64 (obsN ok k w2'), .int .i64 (obsF ok k i2), .int .i64 2] 65)).cell? ⟨w10.heap.size, 0, none⟩ = some (.int .i64 1) := blk_cell k21 0
            have y1 : (w11.alloc (.cells #[.int .i64 1, .string f0, .int .i64 c0, .int .i64 X.code, .int .i64 (obsN ok k w1'), .int .i64 (obsN ok k w2'), .int .i64 (obsF ok k i2), .int .i64 2] 65)).cell? ⟨w10.heap.size, 1, none⟩ = some (.string f0) := blk_cell k21 1
            have y2 : (w11.alloc (.cells #[.int .i64 1, .string f0, .int .i64 c0, .int .i64 X.code, .int .i64 (obsN ok k w1'), .int .i64 (obsN ok k w2'), .int .i64 (obsF ok k i2), .int .i64 2] 65)).cell? ⟨w10.heap.size, 2, none⟩ = some (.int .i64 c0) := blk_cell k21 2
            have y3 : (w11.alloc (.cells #[.int .i64 1, .string f0, .int .i64 c0, .int .i64 X.code, .int .i64 (obsN ok k w1'), .int .i64 (obsN ok k w2'), .int .i64 (obsF ok k i2), .int .i64 2] 65)).cell? ⟨w10.heap.size, 3, none⟩ = some (.int .i64 X.code) := blk_cell k21 3
            have y4 : (w11.alloc (.cells #[.int .i64 1, .string f0, .int .i64 c0, .int .i64 X.code, .int .i64 (obsN ok k w1'), .int .i64 (obsN ok k w2'), .int .i64 (obsF ok k i2), .int .i64 2] 65)).cell? ⟨w10.heap.size, 4, none⟩ = some (.int .i64 (obsN ok j v1)) := blk_cell k21 4
            have y5 : (w11.alloc (.cells #[.int .i64 1, .string f0, .int .i64 c0, .int .i64 X.code, .int .i64 (obsN ok k w1'), .int .i64 (obsN ok k w2'), .int .i64 (obsF ok k i2), .int .i64 2] 65)).cell? ⟨w10.heap.size, 5, none⟩ = some (.int .i64 (obsN ok j v2)) := blk_cell k21 5
            have y6 : (w11.alloc (.cells #[.int .i64 1, .string f0, .int .i64 c0, .int .i64 X.code, .int .i64 (obsN ok k w1'), .int .i64 (obsN ok k w2'), .int .i64 (obsF ok k i2), .int .i64 2] 65)).cell? ⟨w10.heap.size, 6, none⟩ = some (.int .i64 (obsF ok j i1)) := blk_cell k21 6
            have y7 : (w11.alloc (.cells #[.int .i64 1, .string f0, .int .i64 c0, .int .i64 X.code, .int .i64 (obsN ok k w1'), .int .i64 (obsN ok k w2'), .int .i64 (obsF ok k i2), .int .i64 2] 65)).cell? ⟨w10.heap.size, 7, none⟩ = some (.int .i64 2) := blk_cell k21 7
            have x0 : (w11.alloc (.cells #[.int .i64 1, .string f0, .int .i64 c0, .int .i64 X.code, .int .i64 (obsN ok k w1'), .int .i64 (obsN ok k w2'), .int .i64 (obsF ok k i2), .int .i64 2] 65)).cell? ⟨w11.heap.size, 0, none⟩ = some (.int .i64 1) := blk_cell k22 0
            have x1 : (w11.alloc (.cells #[.int .i64 1, .string f0, .int .i64 c0, .int .i64 X.code, .int .i64 (obsN ok k w1'), .int .i64 (obsN ok k w2'), .int .i64 (obsF ok k i2), .int .i64 2] 65)).cell? ⟨w11.heap.size, 1, none⟩ = some (.string f0) := blk_cell k22 1
            have x2 : (w11.alloc (.cells #[.int .i64 1, .string f0, .int .i64 c0, .int .i64 X.code, .int .i64 (obsN ok k w1'), .int .i64 (obsN ok k w2'), .int .i64 (obsF ok k i2), .int .i64 2] 65)).cell? ⟨w11.heap.size, 2, none⟩ = some (.int .i64 c0) := blk_cell k22 2
            have x3 : (w11.alloc (.cells #[.int .i64 1, .string f0, .int .i64 c0, .int .i64 X.code, .int .i64 (obsN ok k w1'), .int .i64 (obsN ok k w2'), .int .i64 (obsF ok k i2), .int .i64 2] 65)).cell? ⟨w11.heap.size, 3, none⟩ = some (.int .i64 X.code) := blk_cell k22 3
            have x4 : (w11.alloc (.cells #[.int .i64 1, .string f0, .int .i64 c0, .int .i64 X.code, .int .i64 (obsN ok k w1'), .int .i64 (obsN ok k w2'), .int .i64 (obsF ok k i2), .int .i64 2] 65)).cell? ⟨w11.heap.size, 4, none⟩ = some (.int .i64 (obsN ok k w1')) := blk_cell k22 4
            have x5 : (w11.alloc (.cells #[.int .i64 1, .string f0, .int .i64 c0, .int .i64 X.code, .int .i64 (obsN ok k w1'), .int .i64 (obsN ok k w2'), .int .i64 (obsF ok k i2), .int .i64 2] 65)).cell? ⟨w11.heap.size, 5, none⟩ = some (.int .i64 (obsN ok k w2')) := blk_cell k22 5
            have x6 : (w11.alloc (.cells #[.int .i64 1, .string f0, .int .i64 c0, .int .i64 X.code, .int .i64 (obsN ok k w1'), .int .i64 (obsN ok k w2'), .int .i64 (obsF ok k i2), .int .i64 2] 65)).cell? ⟨w11.heap.size, 6, none⟩ = some (.int .i64 (obsF ok k i2)) := blk_cell k22 6
            have x7 : (w11.alloc (.cells #[.int .i64 1, .string f0, .int .i64 c0, .int .i64 X.code, .int .i64 (obsN ok k w1'), .int .i64 (obsN ok k w2'), .int .i64 (obsF ok k i2), .int .i64 2] 65)).cell? ⟨w11.heap.size, 7, none⟩ = some (.int .i64 2) := blk_cell k22 7
            obtain ⟨g1, hg1⟩ : ∃ g, obsF ok j i1 = g := ⟨_, rfl⟩
            obtain ⟨g2, hg2⟩ : ∃ g, obsF ok k i2 = g := ⟨_, rfl⟩
            obtain ⟨r1, hr1⟩ : ∃ g, obsN ok j v1 = g := ⟨_, rfl⟩
            obtain ⟨r2, hr2⟩ : ∃ g, obsN ok j v2 = g := ⟨_, rfl⟩
            obtain ⟨r3, hr3⟩ : ∃ g, obsN ok k w1' = g := ⟨_, rfl⟩
            obtain ⟨r4, hr4⟩ : ∃ g, obsN ok k w2' = g := ⟨_, rfl⟩
            rw [hg1, hg2, hr1, hr2, hr3, hr4] at hF
            rcases hF with hF | ⟨hF, hG⟩ | ⟨hF, hG, e1, e2, e3⟩
            · have t1 : ¬ Go.bits .and .i64 g1 2 = 0 := by simpa using hF
              simp only [hg1, hg2, hr1, hr2, hr3, hr4] at y0 y1 y2 y3 y4 y5 y6 y7 x0 x1 x2 x3 x4 x5 x6 x7 zz ⊢
              clear hF
              go_wp2_with fail
              go_ret
              exact ⟨by simp, zz⟩
            · have t1 : Go.bits .and .i64 g1 2 = 0 := by simpa using hF
              have t2 : ¬ Go.bits .and .i64 g2 2 = 0 := by simpa using hG
              simp only [hg1, hg2, hr1, hr2, hr3, hr4] at y0 y1 y2 y3 y4 y5 y6 y7 x0 x1 x2 x3 x4 x5 x6 x7 zz ⊢
              clear hF
              go_wp2_with fail
              go_ret
              exact ⟨by simp, zz⟩
            · have t1 : Go.bits .and .i64 g1 2 = 0 := by simpa using hF
              simp only [hg1, hg2, hr1, hr2, hr3, hr4] at y0 y1 y2 y3 y4 y5 y6 y7 x0 x1 x2 x3 x4 x5 x6 x7 zz ⊢
              have t2 : Go.bits .and .i64 g2 2 = 0 := by simpa using hG
              subst e1 e2 e3
              clear hF
              go_wp2_with fail
              go_ret
              exact ⟨by simp, zz⟩
      · subst m1 m2
        have mm : (c3 == 0) = false := by simp [m3]
        go_wp2_with fail
        go_ret
        exact ⟨rfl, hA.b.be⟩
    · subst m1
      have mm : (b3 == 0) = false := by simp [m2]
      go_wp2_with fail
      go_ret
      exact ⟨rfl, hA.b.be⟩
  · skip
    have mm : (a3 == 0) = false := by simp [m1]
    go_wp2_with fail
    go_ret
    exact ⟨rfl, hA.b.be⟩
end Go.Proofs.Ytmnohhmnkmnikaa.TopUnitsWalk


import Derived.Test.YtcldlfhnmkogeaaTermNames
import Derived.Test.YtcldlfhnmkogeaaTermLaw
import Derived.Test.YtcldlfhnmkogeaaNomRefFind
import Derived.Test.YtcldlfhnmkogeaaUnitBase
/- The law NomenLabels, walked. -/
set_option linter.unusedVariables false
set_option linter.unusedSimpArgs false
namespace Go.Proofs.Ytcldlfhnmkogeaa.NomenLabelsWalk
open Go.RowKit Go.Proofs.YtcldlfhnmkogeaaW.PrintWords Go.Proofs.YtcldlfhnmkogeaaW.PrintLast Go.Proofs.Ytcldlfhnmkogeaa.Nats Go.Proofs.Ytcldlfhnmkogeaa.HeapKit Go.Proofs.Ytcldlfhnmkogeaa.Term

theorem no_word : ∀ u ∈ terms, wordOf u.label = none := by
  have h : ∀ u ∈ terms, (wordOf u.label).isSome = false := by decide +kernel
  intro u hu
  have := h u hu
  cases hw : wordOf u.label with
  | none => rfl
  | some i => rw [hw] at this; cases this
theorem unit_there : ∀ u ∈ terms, (Unit.find u.unit).isSome = true := by decide +kernel
theorem own_term {k : Nat} {u : TRow} (h : terms[k]? = some u) : tfind u.label = some u := by
  unfold tfind
  rw [no_word u (List.mem_of_getElem? h)]
  exact find_own h
/-- What lies there. -/
structure Pl (w wx : World) (g gm : Nat) (o om : Obj) : Prop where
  b : Below w.heap.size w wx
  kg : wx.heap[g]? = some o
  km : wx.heap[gm]? = some om
theorem Pl.step {w wx w2 : World} {g gm : Nat} {o om : Obj} (h : Pl w wx g gm o om) (hb : Below wx.heap.size wx w2) : Pl w w2 g gm o om :=
  ⟨bthen h.b hb, blk_below h.kg hb, blk_below h.km hb⟩
/-- What is known ahead. -/
structure Known (k : Nat) (u : TRow) (x : Unit.URow) : Prop where
  hk : terms[k]? = some u
  fa : ∀ w, Calls Try.prog 34 #[.string u.label] w fun e w' => e = .returned (.tuple #[.agg #[.string u.label, .int .i64 u.code, .string u.unit, .int .i64 u.ln, .int .i64 u.ld, .int .i64 u.mn, .int .i64 u.md], .bool true]) ∧ Below w.heap.size w w'
  fu : ∀ w, Calls Try.prog 39 #[.string u.unit] w fun e w' => e = .returned (.tuple #[.agg #[.string x.name, .int .i64 x.d0, .int .i64 x.d1, .int .i64 x.d2, .int .i64 x.d3, .int .i64 x.fn, .int .i64 x.fd, .int .i64 x.on, .int .i64 x.od, .int .i64 x.code], .bool true]) ∧ Below w.heap.size w w'
theorem known (k : Nat) (hk : k < 24) : ∃ u x, Known k u x := by
  obtain ⟨u, hu⟩ : ∃ u, terms[k]? = some u := ⟨terms[k]'hk, List.getElem?_eq_getElem _⟩
  have hm := List.mem_of_getElem? hu
  have fa := fun w => find_calls u.label w
  simp only [own_term hu, TRow.val] at fa
  have fu := fun w => Unit.find_calls u.unit w
  obtain ⟨x, hx⟩ := Option.isSome_iff_exists.1 (unit_there u hm)
  simp only [hx, Unit.URow.val] at fu
  exact ⟨u, x, ⟨hu, fa, fu⟩⟩
theorem small {a : Int} (h0 : 0 ≤ a) (h1 : a ≤ 255) : ∃ k : Nat, k < 24 ∧ a.tmod 24 = (k : Int) ∧ wrap64 a = a := by
  refine ⟨(a % 24).toNat, by omega, ?_, by unfold wrap64; omega⟩
  rw [Int.tmod_eq_emod_of_nonneg h0]
  omega

set_option maxRecDepth 100000 in
set_option maxHeartbeats 4000000 in
theorem walk (a : Int) (h0 : 0 ≤ a) (h1 : a ≤ 255) (w : World) :
    Calls Try.prog 16 #[.int .u8 a] w fun e w' => e = .returned (.bool true) ∧ Below w.heap.size w w' := by
  obtain ⟨k, hk, er, ew⟩ := small h0 h1
  obtain ⟨u, x, hkn⟩ := known k hk
  have HK := Lib.hid hkn
  have hki : ((k : Nat) : Int) < 24 := by omega
  clear hkn h0 h1
  go_enter Try.func16, Try.ntmps16
  go_wp2_with fail
  refine (awake20 _).mono ?_
  rintro e w1 ⟨rfl, hB⟩
  go_wp2_with fail
  refine (labels_calls _).mono ?_
  rintro e w2 ⟨vv, rfl, hown, hb2⟩
  replace hB := bthen hB hb2
  clear hb2
  obtain ⟨hlen, ⟨_, hz⟩ | ⟨g, cap, cur, rfl, _, hg, hcap, _, hcs, hcur⟩⟩ := hown
  · cases hz
  obtain ⟨o, ho⟩ : ∃ o, w2.heap[g]? = some o := ⟨_, hg⟩
  have hat : ∀ W : World, W.heap[g]? = some o → W.cell? ⟨g, k, none⟩ = some (.string u.label) := by
    intro W hW
    rw [Option.some.inj (ho.symm.trans hg)] at hW
    rw [blk_cell hW k, ← Array.getElem?_toList]
    have : cur.toList[k]? = (cur.toList.take (24 * 1))[k]? := by rw [List.getElem?_take_of_lt (by omega)]
    rw [this, hcur, List.getElem?_map, HK.out.hk]
    rfl
  have HG := Lib.hid hat
  clear hat hcur hcs hlen hg
  go_wp2_with fail
  refine (reflabels_calls _).mono ?_
  rintro e w3 ⟨gm, rfl, _, hm3, hb3⟩
  obtain ⟨om, hom⟩ : ∃ om, w3.heap[gm]? = some om := ⟨_, hm3⟩
  have hP : Pl w w3 g gm o om := ⟨bthen hB hb3, blk_below ho hb3, hom⟩
  have hmt : ∀ W : World, W.heap[gm]? = some om → W.cell? ⟨gm, k, none⟩ = some (.string u.label) := by
    intro W hW
    rw [Option.some.inj (hom.symm.trans hm3)] at hW
    rw [blk_cell hW k, List.getElem?_toArray, labelsL, List.getElem?_map, HK.out.hk]
    rfl
  have HM := Lib.hid hmt
  clear hmt hB hb3 hm3 hom ho
  have a0 : w3.cell? ⟨g, k, none⟩ = some (.string u.label) := HG.out w3 hP.kg
  go_wp2_with fail
  refine (HK.out.fa _).mono ?_
  rintro e w4 ⟨rfl, hb4⟩
  replace hP := (hP.step hb4).step (below_alloc (Below.refl _ _) (.cells #[.string u.label, .int .i64 u.code, .string u.unit, .int .i64 u.ln, .int .i64 u.ld, .int .i64 u.mn, .int .i64 u.md] 57))
  have k6 := blk_new w4 (.cells #[.string u.label, .int .i64 u.code, .string u.unit, .int .i64 u.ln, .int .i64 u.ld, .int .i64 u.mn, .int .i64 u.md] 57)
  clear hb4 a0
  have c0 : (w4.alloc (.cells #[.string u.label, .int .i64 u.code, .string u.unit, .int .i64 u.ln, .int .i64 u.ld, .int .i64 u.mn, .int .i64 u.md] 57)).cell? ⟨w4.heap.size, 0, none⟩ = some (.string u.label) := blk_cell k6 0
  have c1 : (w4.alloc (.cells #[.string u.label, .int .i64 u.code, .string u.unit, .int .i64 u.ln, .int .i64 u.ld, .int .i64 u.mn, .int .i64 u.md] 57)).cell? ⟨w4.heap.size, 1, none⟩ = some (.int .i64 u.code) := blk_cell k6 1
  have c2 : (w4.alloc (.cells #[.string u.label, .int .i64 u.code, .string u.unit, .int .i64 u.ln, .int .i64 u.ld, .int .i64 u.mn, .int .i64 u.md] 57)).cell? ⟨w4.heap.size, 2, none⟩ = some (.string u.unit) := blk_cell k6 2
  have c3 : (w4.alloc (.cells #[.string u.label, .int .i64 u.code, .string u.unit, .int .i64 u.ln, .int .i64 u.ld, .int .i64 u.mn, .int .i64 u.md] 57)).cell? ⟨w4.heap.size, 3, none⟩ = some (.int .i64 u.ln) := blk_cell k6 3
  have c4 : (w4.alloc (.cells #[.string u.label, .int .i64 u.code, .string u.unit, .int .i64 u.ln, .int .i64 u.ld, .int .i64 u.mn, .int .i64 u.md] 57)).cell? ⟨w4.heap.size, 4, none⟩ = some (.int .i64 u.ld) := blk_cell k6 4
  have c5 : (w4.alloc (.cells #[.string u.label, .int .i64 u.code, .string u.unit, .int .i64 u.ln, .int .i64 u.ld, .int .i64 u.mn, .int .i64 u.md] 57)).cell? ⟨w4.heap.size, 5, none⟩ = some (.int .i64 u.mn) := blk_cell k6 5
  have c6 : (w4.alloc (.cells #[.string u.label, .int .i64 u.code, .string u.unit, .int .i64 u.ln, .int .i64 u.ld, .int .i64 u.mn, .int .i64 u.md] 57)).cell? ⟨w4.heap.size, 6, none⟩ = some (.int .i64 u.md) := blk_cell k6 6
  go_wp2_with fail
  refine (HK.out.fu _).mono ?_
  rintro e w5 ⟨rfl, hb5⟩
  replace hP := (hP.step hb5).step (below_alloc (Below.refl _ _) (.cells #[.string x.name, .int .i64 x.d0, .int .i64 x.d1, .int .i64 x.d2, .int .i64 x.d3, .int .i64 x.fn, .int .i64 x.fd, .int .i64 x.on, .int .i64 x.od, .int .i64 x.code] 70))
  replace k6 := blk_below (blk_below k6 hb5) (below_alloc (Below.refl _ _) (.cells #[.string x.name, .int .i64 x.d0, .int .i64 x.d1, .int .i64 x.d2, .int .i64 x.d3, .int .i64 x.fn, .int .i64 x.fd, .int .i64 x.on, .int .i64 x.od, .int .i64 x.code] 70))
  clear hb5 c0 c1 c2 c3 c4 c5 c6
  obtain ⟨p6, hp6⟩ : ∃ p, p = w4.heap.size := ⟨_, rfl⟩
  rw [← hp6] at k6
  rw [← hp6]
  clear hp6
  go_wp2_with fail
  obtain ⟨w6, hw6⟩ : ∃ w6, w6 = w5.alloc (.cells #[.string x.name, .int .i64 x.d0, .int .i64 x.d1, .int .i64 x.d2, .int .i64 x.d3, .int .i64 x.fn, .int .i64 x.fd, .int .i64 x.on, .int .i64 x.od, .int .i64 x.code] 70) := ⟨_, rfl⟩
  rw [← hw6] at hP k6
  rw [← hw6]
  clear hw6
  refine start_ (n := 25) (S := fun wx => Pl w wx g gm o om ∧ wx.heap[p6]? = some (.cells #[.string u.label, .int .i64 u.code, .string u.unit, .int .i64 u.ln, .int .i64 u.ld, .int .i64 u.mn, .int .i64 u.md] 57 (0, 0))) (ds := []) #[false, false, false, false, false, false, false, false, false, false, false, false, false, false, false, false, false, false, false, false, false, false, false, false, false] (by kernel_rfl) rfl rfl ⟨hP.step (below_drew (Below.refl _ _)), blk_below k6 (below_drew (Below.refl _ _))⟩ (fun hHeld => ?_)
  refine pure_ (i := 0) (N := some 38) (v := ?_) (a' := ?_) #[true, false, false, false, false, false, false, false, false, false, false, false, false, false, false, false, false, false, false, false, false, false, false, false, false] rfl rfl (by kernel_rfl) (fun _ _ _ h => h) (Or.inl ⟨by rfl, ?_⟩) ?_ ?_
  rotate_left
  · intro w'
    go_simp
    try with_reducible rfl
  rotate_left
  · simp only [Act.put, List.setIfInBounds_toArray, List.set_cons_zero, List.set_cons_succ, i64_w, i32_w]
    rfl
  refine pure_ (i := 1) (N := some 39) (v := ?_) (a' := ?_) #[true, true, false, false, false, false, false, false, false, false, false, false, false, false, false, false, false, false, false, false, false, false, false, false, false] rfl rfl (by kernel_rfl) (fun _ _ _ h => h) (Or.inl ⟨by rfl, ?_⟩) ?_ ?_
  rotate_left
  · intro w'
    go_simp
    try with_reducible rfl
  rotate_left
  · simp only [Act.put, List.setIfInBounds_toArray, List.set_cons_zero, List.set_cons_succ, i64_w, i32_w]
    rfl
  refine pure_ (i := 2) (N := some 40) (v := ?_) (a' := ?_) #[true, true, true, false, false, false, false, false, false, false, false, false, false, false, false, false, false, false, false, false, false, false, false, false, false] rfl rfl (by kernel_rfl) (fun _ _ _ h => h) (Or.inl ⟨by rfl, ?_⟩) ?_ ?_
  rotate_left
  · intro w'
    go_simp
    try with_reducible rfl
  rotate_left
  · simp only [Act.put, List.setIfInBounds_toArray, List.set_cons_zero, List.set_cons_succ, i64_w, i32_w]
    rfl
  refine take_ (i := 3) (N := some 41) (v := ?_) (a' := ?_) #[true, true, true, true, false, false, false, false, false, false, false, false, false, false, false, false, false, false, false, false, false, false, false, false, false] rfl rfl (by kernel_rfl) (fun _ _ _ h => h) (Or.inl ⟨by rfl, ?_⟩) hHeld ?_ ?_
  rotate_left
  · rintro w' hh
    have a0 : w'.cell? ⟨g, k, none⟩ = some (.string u.label) := HG.out w' hh.1.kg
    have a1 : w'.cell? ⟨gm, k, none⟩ = some (.string u.label) := HM.out w' hh.1.km
    have c0 : w'.cell? ⟨p6, 0, none⟩ = some (.string u.label) := blk_cell hh.2 0
    go_simp
    with_reducible rfl
  rotate_left
  · simp only [Act.put, List.setIfInBounds_toArray, List.set_cons_zero, List.set_cons_succ, i64_w, i32_w]
    rfl
  refine pure_ (i := 4) (N := some 42) (v := ?_) (a' := ?_) #[true, true, true, true, true, false, false, false, false, false, false, false, false, false, false, false, false, false, false, false, false, false, false, false, false] rfl rfl (by kernel_rfl) (fun _ _ _ h => h) (Or.inl ⟨by rfl, ?_⟩) ?_ ?_
  rotate_left
  · intro w'
    go_simp
    try with_reducible rfl
  rotate_left
  · simp only [Act.put, List.setIfInBounds_toArray, List.set_cons_zero, List.set_cons_succ, i64_w, i32_w]
    rfl
  refine pure_ (i := 5) (N := some 43) (v := ?_) (a' := ?_) #[true, true, true, true, true, true, false, false, false, false, false, false, false, false, false, false, false, false, false, false, false, false, false, false, false] rfl rfl (by kernel_rfl) (fun _ _ _ h => h) (Or.inl ⟨by rfl, ?_⟩) ?_ ?_
  rotate_left
  · intro w'
    go_simp
    try with_reducible rfl
  rotate_left
  · simp only [Act.put, List.setIfInBounds_toArray, List.set_cons_zero, List.set_cons_succ, i64_w, i32_w]
    rfl
  refine pure_ (i := 6) (N := some 44) (v := ?_) (a' := ?_) #[true, true, true, true, true, true, true, false, false, false, false, false, false, false, false, false, false, false, false, false, false, false, false, false, false] rfl rfl (by kernel_rfl) (fun _ _ _ h => h) (Or.inl ⟨by rfl, ?_⟩) ?_ ?_
  rotate_left
  · intro w'
    go_simp
    try with_reducible rfl
  rotate_left
  · simp only [Act.put, List.setIfInBounds_toArray, List.set_cons_zero, List.set_cons_succ, i64_w, i32_w]
    rfl
  refine take_ (i := 7) (N := some 45) (v := ?_) (a' := ?_) #[true, true, true, true, true, true, true, true, false, false, false, false, false, false, false, false, false, false, false, false, false, false, false, false, false] rfl rfl (by kernel_rfl) (fun _ _ _ h => h) (Or.inl ⟨by rfl, ?_⟩) hHeld ?_ ?_
  rotate_left
  · rintro w' hh
    have a0 : w'.cell? ⟨g, k, none⟩ = some (.string u.label) := HG.out w' hh.1.kg
    have a1 : w'.cell? ⟨gm, k, none⟩ = some (.string u.label) := HM.out w' hh.1.km
    have c0 : w'.cell? ⟨p6, 0, none⟩ = some (.string u.label) := blk_cell hh.2 0
    go_simp
    with_reducible rfl
  rotate_left
  · simp only [Act.put, List.setIfInBounds_toArray, List.set_cons_zero, List.set_cons_succ, i64_w, i32_w]
    rfl
  refine pure_ (i := 8) (N := some 46) (v := ?_) (a' := ?_) #[true, true, true, true, true, true, true, true, true, false, false, false, false, false, false, false, false, false, false, false, false, false, false, false, false] rfl rfl (by kernel_rfl) (fun _ _ _ h => h) (Or.inl ⟨by rfl, ?_⟩) ?_ ?_
  rotate_left
  · intro w'
    go_simp
    try with_reducible rfl
  rotate_left
  · simp only [Act.put, List.setIfInBounds_toArray, List.set_cons_zero, List.set_cons_succ, i64_w, i32_w]
    rfl
  refine pure_ (i := 9) (N := some 47) (v := ?_) (a' := ?_) #[true, true, true, true, true, true, true, true, true, true, false, false, false, false, false, false, false, false, false, false, false, false, false, false, false] rfl rfl (by kernel_rfl) (fun _ _ _ h => h) (Or.inl ⟨by rfl, ?_⟩) ?_ ?_
  rotate_left
  · intro w'
    go_simp
    try with_reducible rfl
  rotate_left
  · simp only [Act.put, List.setIfInBounds_toArray, List.set_cons_zero, List.set_cons_succ, i64_w, i32_w]
    rfl
  refine pure_ (i := 10) (N := some 48) (v := ?_) (a' := ?_) #[true, true, true, true, true, true, true, true, true, true, true, false, false, false, false, false, false, false, false, false, false, false, false, false, false] rfl rfl (by kernel_rfl) (fun _ _ _ h => h) (Or.inl ⟨by rfl, ?_⟩) ?_ ?_
  rotate_left
  · intro w'
    go_simp
    try with_reducible rfl
  rotate_left
  · simp only [Act.put, List.setIfInBounds_toArray, List.set_cons_zero, List.set_cons_succ, i64_w, i32_w]
    rfl
  refine pure_ (i := 11) (N := some 49) (v := ?_) (a' := ?_) #[true, true, true, true, true, true, true, true, true, true, true, true, false, false, false, false, false, false, false, false, false, false, false, false, false] rfl rfl (by kernel_rfl) (fun _ _ _ h => h) (Or.inl ⟨by rfl, ?_⟩) ?_ ?_
  rotate_left
  · intro w'
    go_simp
    try with_reducible rfl
  rotate_left
  · simp only [Act.put, List.setIfInBounds_toArray, List.set_cons_zero, List.set_cons_succ, i64_w, i32_w]
    rfl
  refine pure_ (i := 12) (N := some 50) (v := ?_) (a' := ?_) #[true, true, true, true, true, true, true, true, true, true, true, true, true, false, false, false, false, false, false, false, false, false, false, false, false] rfl rfl (by kernel_rfl) (fun _ _ _ h => h) (Or.inl ⟨by rfl, ?_⟩) ?_ ?_
  rotate_left
  · intro w'
    go_simp
    try with_reducible rfl
  rotate_left
  · simp only [Act.put, List.setIfInBounds_toArray, List.set_cons_zero, List.set_cons_succ, i64_w, i32_w]
    rfl
  refine pure_ (i := 13) (N := some 51) (v := ?_) (a' := ?_) #[true, true, true, true, true, true, true, true, true, true, true, true, true, true, false, false, false, false, false, false, false, false, false, false, false] rfl rfl (by kernel_rfl) (fun _ _ _ h => h) (Or.inl ⟨by rfl, ?_⟩) ?_ ?_
  rotate_left
  · intro w'
    go_simp
    try with_reducible rfl
  rotate_left
  · simp only [Act.put, List.setIfInBounds_toArray, List.set_cons_zero, List.set_cons_succ, i64_w, i32_w]
    rfl
  refine pure_ (i := 14) (N := some 52) (v := ?_) (a' := ?_) #[true, true, true, true, true, true, true, true, true, true, true, true, true, true, true, false, false, false, false, false, false, false, false, false, false] rfl rfl (by kernel_rfl) (fun _ _ _ h => h) (Or.inl ⟨by rfl, ?_⟩) ?_ ?_
  rotate_left
  · intro w'
    go_simp
    try with_reducible rfl
  rotate_left
  · simp only [Act.put, List.setIfInBounds_toArray, List.set_cons_zero, List.set_cons_succ, i64_w, i32_w]
    rfl
  refine pure_ (i := 15) (N := some 53) (v := ?_) (a' := ?_) #[true, true, true, true, true, true, true, true, true, true, true, true, true, true, true, true, false, false, false, false, false, false, false, false, false] rfl rfl (by kernel_rfl) (fun _ _ _ h => h) (Or.inl ⟨by rfl, ?_⟩) ?_ ?_
  rotate_left
  · intro w'
    go_simp
    try with_reducible rfl
  rotate_left
  · simp only [Act.put, List.setIfInBounds_toArray, List.set_cons_zero, List.set_cons_succ, i64_w, i32_w]
    rfl
  refine pure_ (i := 16) (N := some 54) (v := ?_) (a' := ?_) #[true, true, true, true, true, true, true, true, true, true, true, true, true, true, true, true, true, false, false, false, false, false, false, false, false] rfl rfl (by kernel_rfl) (fun _ _ _ h => h) (Or.inl ⟨by rfl, ?_⟩) ?_ ?_
  rotate_left
  · intro w'
    go_simp
    try with_reducible rfl
  rotate_left
  · simp only [Act.put, List.setIfInBounds_toArray, List.set_cons_zero, List.set_cons_succ, i64_w, i32_w]
    rfl
  refine take_ (i := 17) (N := some 55) (v := ?_) (a' := ?_) #[true, true, true, true, true, true, true, true, true, true, true, true, true, true, true, true, true, true, false, false, false, false, false, false, false] rfl rfl (by kernel_rfl) (fun _ _ _ h => h) (Or.inl ⟨by rfl, ?_⟩) hHeld ?_ ?_
  rotate_left
  · rintro w' hh
    have a0 : w'.cell? ⟨g, k, none⟩ = some (.string u.label) := HG.out w' hh.1.kg
    have a1 : w'.cell? ⟨gm, k, none⟩ = some (.string u.label) := HM.out w' hh.1.km
    have c0 : w'.cell? ⟨p6, 0, none⟩ = some (.string u.label) := blk_cell hh.2 0
    go_simp
    with_reducible rfl
  rotate_left
  · simp only [Act.put, List.setIfInBounds_toArray, List.set_cons_zero, List.set_cons_succ, i64_w, i32_w]
    rfl
  refine pure_ (i := 18) (N := some 56) (v := ?_) (a' := ?_) #[true, true, true, true, true, true, true, true, true, true, true, true, true, true, true, true, true, true, true, false, false, false, false, false, false] rfl rfl (by kernel_rfl) (fun _ _ _ h => h) (Or.inl ⟨by rfl, ?_⟩) ?_ ?_
  rotate_left
  · intro w'
    go_simp
    try with_reducible rfl
  rotate_left
  · simp only [Act.put, List.setIfInBounds_toArray, List.set_cons_zero, List.set_cons_succ, i64_w, i32_w]
    rfl
  refine pure_ (i := 19) (N := some 57) (v := ?_) (a' := ?_) #[true, true, true, true, true, true, true, true, true, true, true, true, true, true, true, true, true, true, true, true, false, false, false, false, false] rfl rfl (by kernel_rfl) (fun _ _ _ h => h) (Or.inl ⟨by rfl, ?_⟩) ?_ ?_
  rotate_left
  · intro w'
    go_simp
    try with_reducible rfl
  rotate_left
  · simp only [Act.put, List.setIfInBounds_toArray, List.set_cons_zero, List.set_cons_succ, i64_w, i32_w]
    rfl
  refine pure_ (i := 20) (N := some 58) (v := ?_) (a' := ?_) #[true, true, true, true, true, true, true, true, true, true, true, true, true, true, true, true, true, true, true, true, true, false, false, false, false] rfl rfl (by kernel_rfl) (fun _ _ _ h => h) (Or.inl ⟨by rfl, ?_⟩) ?_ ?_
  rotate_left
  · intro w'
    go_simp
    try with_reducible rfl
  rotate_left
  · simp only [Act.put, List.setIfInBounds_toArray, List.set_cons_zero, List.set_cons_succ, i64_w, i32_w]
    rfl
  refine take_ (i := 21) (N := some 59) (v := ?_) (a' := ?_) #[true, true, true, true, true, true, true, true, true, true, true, true, true, true, true, true, true, true, true, true, true, true, false, false, false] rfl rfl (by kernel_rfl) (fun _ _ _ h => h) (Or.inl ⟨by rfl, ?_⟩) hHeld ?_ ?_
  rotate_left
  · rintro w' hh
    have a0 : w'.cell? ⟨g, k, none⟩ = some (.string u.label) := HG.out w' hh.1.kg
    have a1 : w'.cell? ⟨gm, k, none⟩ = some (.string u.label) := HM.out w' hh.1.km
    have c0 : w'.cell? ⟨p6, 0, none⟩ = some (.string u.label) := blk_cell hh.2 0
    go_simp
    with_reducible rfl
  rotate_left
  · simp only [Act.put, List.setIfInBounds_toArray, List.set_cons_zero, List.set_cons_succ, i64_w, i32_w]
    rfl
  refine pure_ (i := 22) (N := some 60) (v := ?_) (a' := ?_) #[true, true, true, true, true, true, true, true, true, true, true, true, true, true, true, true, true, true, true, true, true, true, true, false, false] rfl rfl (by kernel_rfl) (fun _ _ _ h => h) (Or.inl ⟨by rfl, ?_⟩) ?_ ?_
  rotate_left
  · intro w'
    go_simp
    try with_reducible rfl
  rotate_left
  · simp only [Act.put, List.setIfInBounds_toArray, List.set_cons_zero, List.set_cons_succ, i64_w, i32_w]
    rfl
  refine pure_ (i := 23) (N := some 61) (v := ?_) (a' := ?_) #[true, true, true, true, true, true, true, true, true, true, true, true, true, true, true, true, true, true, true, true, true, true, true, true, false] rfl rfl (by kernel_rfl) (fun _ _ _ h => h) (Or.inl ⟨by rfl, ?_⟩) ?_ ?_
  rotate_left
  · intro w'
    go_simp
    try with_reducible rfl
  rotate_left
  · simp only [Act.put, List.setIfInBounds_toArray, List.set_cons_zero, List.set_cons_succ, i64_w, i32_w]
    rfl
  refine pure_ (i := 24) (N := some 2) (v := ?_) (a' := ?_) #[true, true, true, true, true, true, true, true, true, true, true, true, true, true, true, true, true, true, true, true, true, true, true, true, true] rfl rfl (by kernel_rfl) (fun _ _ _ h => h) (Or.inl ⟨by rfl, ?_⟩) ?_ ?_
  rotate_left
  · intro w'
    go_simp
    try with_reducible rfl
  rotate_left
  · simp only [Act.put, List.setIfInBounds_toArray, List.set_cons_zero, List.set_cons_succ, i64_w, i32_w]
    rfl
  refine done_ (by kernel_rfl) ?_
  have hB := hHeld.1.b
  clear hHeld hP
  go_wp2_with fail
  go_ret
  exact ⟨by simp, hB⟩
end Go.Proofs.Ytcldlfhnmkogeaa.NomenLabelsWalk

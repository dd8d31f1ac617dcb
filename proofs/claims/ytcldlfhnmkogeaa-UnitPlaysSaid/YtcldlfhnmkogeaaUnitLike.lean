import Derived.Test.YtcldlfhnmkogeaaUnitMore
/- Whether two units are of one kind (unit.Like), walked. -/
set_option linter.unusedVariables false
set_option linter.unusedSimpArgs false
namespace Go.Proofs.Ytcldlfhnmkogeaa.UnitLike
open Go.RowKit Go.Proofs.YtcldlfhnmkogeaaW.PrintWords Go.Proofs.YtcldlfhnmkogeaaW.PrintLast Go.Proofs.Ytcldlfhnmkogeaa.Nats Go.Proofs.Ytcldlfhnmkogeaa.HeapKit Go.Proofs.Ytcldlfhnmkogeaa.RatPlain Go.Proofs.Ytcldlfhnmkogeaa.Scale Go.Proofs.Ytcldlfhnmkogeaa.Unit Go.Proofs.Ytcldlfhnmkogeaa.UnitLaw

def likeR (a b : ByteArray) : Bool := match find a, find b with | some x, some y => decide (likeU x y) | _, _ => false
theorem like_self (a : ByteArray) : likeR a a = (find a).isSome := by
  unfold likeR
  cases h : find a with
  | none => rfl
  | some x => simp [likeU]
theorem like_sym (a b : ByteArray) : likeR a b = likeR b a := by
  unfold likeR
  cases find a <;> cases find b <;> try rfl
  rename_i x y
  refine decide_eq_decide.2 ?_
  unfold likeU
  constructor <;> rintro ⟨h1, h2, h3, h4⟩ <;> exact ⟨h1.symm, h2.symm, h3.symm, h4.symm⟩
theorem like_trans {a b c : ByteArray} (h1 : likeR a b = true) (h2 : likeR b c = true) : likeR a c = true := by
  unfold likeR at *
  cases ha : find a with
  | none => rw [ha] at h1; cases h1
  | some x =>
    cases hb : find b with
    | none => rw [ha, hb] at h1; cases h1
    | some y =>
      cases hc : find c with
      | none => rw [hb, hc] at h2; cases h2
      | some z =>
        rw [ha, hb] at h1
        rw [hb, hc] at h2
        have k1 : likeU x y := of_decide_eq_true h1
        have k2 : likeU y z := of_decide_eq_true h2
        exact decide_eq_true ⟨k1.1.trans k2.1, k1.2.1.trans k2.2.1, k1.2.2.1.trans k2.2.2.1, k1.2.2.2.trans k2.2.2.2⟩
theorem conv_self (a : ByteArray) {vn vd : Int} (hv : Rt vn vd) : convR a a vn vd = if (find a).isSome = true then (vn, vd, 0) else (0, 0, 4) := by
  unfold convR
  cases h : find a with
  | none => rfl
  | some x => simp [likeU, hv]
theorem conv_like (a b : ByteArray) {vn vd f1 f2 f3 : Int} (hv : Rt vn vd) (h : convR a b vn vd = (f1, f2, f3)) : (likeR a b = true → f3 = 0 ∨ f3 = 2) ∧ (likeR a b = false → f3 ≠ 0 ∧ f3 ≠ 2) ∧ (find a = none → f3 ≠ 0) := by
  unfold likeR
  rcases conv_cases a b hv with ⟨hm, k⟩ | ⟨x, y, hx, hy, ⟨hl, k⟩ | ⟨hl, k, _⟩ | ⟨hl, n, d, k, _, _⟩⟩ <;> rw [k] at h <;> cases h
  · refine ⟨fun h => ?_, fun _ => ⟨by decide, by decide⟩, fun _ => by decide⟩
    rcases hm with h1 | h1
    · rw [h1] at h; cases h
    · cases hfa : find a <;> rw [hfa, h1] at h <;> cases h
  · rw [hx, hy]
    exact ⟨fun h => absurd (of_decide_eq_true h) hl, fun _ => ⟨by decide, by decide⟩, fun h => by cases h⟩
  · rw [hx, hy]
    exact ⟨fun _ => .inr rfl, fun h => absurd hl (of_decide_eq_false h), fun h => by cases h⟩
  · rw [hx, hy]
    exact ⟨fun _ => .inl rfl, fun h => absurd hl (of_decide_eq_false h), fun h => by cases h⟩

set_option maxRecDepth 100000 in
set_option maxHeartbeats 4000000 in
theorem like_off (a b : ByteArray) (hm : find a = none ∨ find b = none) (w : World) :
    Calls Try.prog 40 #[.string a, .string b] w fun e w' => e = .returned (.bool false) ∧ Below w.heap.size w w' := by
  obtain ⟨x, ox, hx, hxo⟩ : ∃ x ox, (∀ w, Calls Try.prog 39 #[.string a] w fun e W' => e = .returned (.tuple #[URow.val x, .bool ox]) ∧ Below w.heap.size w W') ∧ (find a).isSome = ox := ⟨_, _, find_calls a, rfl⟩
  obtain ⟨y, oy, hy, hyo⟩ : ∃ x ox, (∀ w, Calls Try.prog 39 #[.string b] w fun e W' => e = .returned (.tuple #[URow.val x, .bool ox]) ∧ Below w.heap.size w W') ∧ (find b).isSome = ox := ⟨_, _, find_calls b, rfl⟩
  have hoo : ox = false ∨ oy = false := by
    rcases hm with h | h
    · left; rw [← hxo, h]; rfl
    · right; rw [← hyo, h]; rfl
  have hoo2 : ox = false ∨ (ox = true ∧ oy = false) := by
    cases ox with
    | false => exact .inl rfl
    | true => exact .inr ⟨rfl, hoo.elim (fun h => by cases h) id⟩
  simp only [URow.val] at hx hy
  have FA := Lib.hid hx
  have FB := Lib.hid hy
  clear hx hy hxo hyo hm hoo
  go_enter Try.func40, Try.ntmps40
  go_wp2_with fail
  refine (FA.out _).mono ?_
  rintro e w1 ⟨rfl, hb1⟩
  have hB1 := bthen hb1 (below_alloc (Below.refl _ _) (.cells #[.string x.name, .int .i64 x.d0, .int .i64 x.d1, .int .i64 x.d2, .int .i64 x.d3, .int .i64 x.fn, .int .i64 x.fd, .int .i64 x.on, .int .i64 x.od, .int .i64 x.code] 70))
  have k1 := blk_new w1 (.cells #[.string x.name, .int .i64 x.d0, .int .i64 x.d1, .int .i64 x.d2, .int .i64 x.d3, .int .i64 x.fn, .int .i64 x.fd, .int .i64 x.on, .int .i64 x.od, .int .i64 x.code] 70)
  go_wp2_with fail
  refine (FB.out _).mono ?_
  rintro e w2 ⟨rfl, hb2⟩
  have hB2 := bthen (bthen hB1 hb2) (below_alloc (Below.refl _ _) (.cells #[.string y.name, .int .i64 y.d0, .int .i64 y.d1, .int .i64 y.d2, .int .i64 y.d3, .int .i64 y.fn, .int .i64 y.fd, .int .i64 y.on, .int .i64 y.od, .int .i64 y.code] 70))
  have k2 := blk_alloc (blk_below k1 hb2) (.cells #[.string y.name, .int .i64 y.d0, .int .i64 y.d1, .int .i64 y.d2, .int .i64 y.d3, .int .i64 y.fn, .int .i64 y.fd, .int .i64 y.on, .int .i64 y.od, .int .i64 y.code] 70)
  have k3 := blk_new w2 (.cells #[.string y.name, .int .i64 y.d0, .int .i64 y.d1, .int .i64 y.d2, .int .i64 y.d3, .int .i64 y.fn, .int .i64 y.fd, .int .i64 y.on, .int .i64 y.od, .int .i64 y.code] 70)
  clear hb1 hb2 hB1 k1
  rcases hoo2 with rfl | ⟨rfl, rfl⟩
  · go_wp2_with fail
    go_ret
    exact ⟨rfl, hB2⟩
  · go_wp2_with fail
    go_ret
    exact ⟨rfl, hB2⟩

set_option maxRecDepth 100000 in
set_option maxHeartbeats 4000000 in
theorem like_on (a b : ByteArray) (x y : URow) (ha : find a = some x) (hb : find b = some y) (w : World) :
    Calls Try.prog 40 #[.string a, .string b] w fun e w' => e = .returned (.bool (decide (likeU x y))) ∧ Below w.heap.size w w' := by
  have hq := eqU ha hb
  obtain ⟨r, hr⟩ : ∃ r, decide (likeU x y) = r := ⟨_, rfl⟩
  simp only [hr] at hq
  rw [hr]
  clear hr
  have fa := fun w => find_calls a w
  have fb := fun w => find_calls b w
  simp only [ha, Option.getD_some, Option.isSome_some, URow.val] at fa
  simp only [hb, Option.getD_some, Option.isSome_some, URow.val] at fb
  have FA := Lib.hid fa
  have FB := Lib.hid fb
  clear fa fb
  go_enter Try.func40, Try.ntmps40
  go_wp2_with fail
  refine (FA.out _).mono ?_
  rintro e w1 ⟨rfl, hb1⟩
  have hB1 := bthen hb1 (below_alloc (Below.refl _ _) (.cells #[.string x.name, .int .i64 x.d0, .int .i64 x.d1, .int .i64 x.d2, .int .i64 x.d3, .int .i64 x.fn, .int .i64 x.fd, .int .i64 x.on, .int .i64 x.od, .int .i64 x.code] 70))
  have k1 := blk_new w1 (.cells #[.string x.name, .int .i64 x.d0, .int .i64 x.d1, .int .i64 x.d2, .int .i64 x.d3, .int .i64 x.fn, .int .i64 x.fd, .int .i64 x.on, .int .i64 x.od, .int .i64 x.code] 70)
  go_wp2_with fail
  refine (FB.out _).mono ?_
  rintro e w2 ⟨rfl, hb2⟩
  have hB2 := bthen (bthen hB1 hb2) (below_alloc (Below.refl _ _) (.cells #[.string y.name, .int .i64 y.d0, .int .i64 y.d1, .int .i64 y.d2, .int .i64 y.d3, .int .i64 y.fn, .int .i64 y.fd, .int .i64 y.on, .int .i64 y.od, .int .i64 y.code] 70))
  have k2 := blk_alloc (blk_below k1 hb2) (.cells #[.string y.name, .int .i64 y.d0, .int .i64 y.d1, .int .i64 y.d2, .int .i64 y.d3, .int .i64 y.fn, .int .i64 y.fd, .int .i64 y.on, .int .i64 y.od, .int .i64 y.code] 70)
  have k3 := blk_new w2 (.cells #[.string y.name, .int .i64 y.d0, .int .i64 y.d1, .int .i64 y.d2, .int .i64 y.d3, .int .i64 y.fn, .int .i64 y.fd, .int .i64 y.on, .int .i64 y.od, .int .i64 y.code] 70)
  clear hb1 hb2 hB1 k1
  have x0 : (w2.alloc (.cells #[.string y.name, .int .i64 y.d0, .int .i64 y.d1, .int .i64 y.d2, .int .i64 y.d3, .int .i64 y.fn, .int .i64 y.fd, .int .i64 y.on, .int .i64 y.od, .int .i64 y.code] 70)).cell? ⟨w1.heap.size, 0, none⟩ = some (.string x.name) := blk_cell k2 0
  have x1 : (w2.alloc (.cells #[.string y.name, .int .i64 y.d0, .int .i64 y.d1, .int .i64 y.d2, .int .i64 y.d3, .int .i64 y.fn, .int .i64 y.fd, .int .i64 y.on, .int .i64 y.od, .int .i64 y.code] 70)).cell? ⟨w1.heap.size, 1, none⟩ = some (.int .i64 x.d0) := blk_cell k2 1
  have x2 : (w2.alloc (.cells #[.string y.name, .int .i64 y.d0, .int .i64 y.d1, .int .i64 y.d2, .int .i64 y.d3, .int .i64 y.fn, .int .i64 y.fd, .int .i64 y.on, .int .i64 y.od, .int .i64 y.code] 70)).cell? ⟨w1.heap.size, 2, none⟩ = some (.int .i64 x.d1) := blk_cell k2 2
  have x3 : (w2.alloc (.cells #[.string y.name, .int .i64 y.d0, .int .i64 y.d1, .int .i64 y.d2, .int .i64 y.d3, .int .i64 y.fn, .int .i64 y.fd, .int .i64 y.on, .int .i64 y.od, .int .i64 y.code] 70)).cell? ⟨w1.heap.size, 3, none⟩ = some (.int .i64 x.d2) := blk_cell k2 3
  have x4 : (w2.alloc (.cells #[.string y.name, .int .i64 y.d0, .int .i64 y.d1, .int .i64 y.d2, .int .i64 y.d3, .int .i64 y.fn, .int .i64 y.fd, .int .i64 y.on, .int .i64 y.od, .int .i64 y.code] 70)).cell? ⟨w1.heap.size, 4, none⟩ = some (.int .i64 x.d3) := blk_cell k2 4
  have x5 : (w2.alloc (.cells #[.string y.name, .int .i64 y.d0, .int .i64 y.d1, .int .i64 y.d2, .int .i64 y.d3, .int .i64 y.fn, .int .i64 y.fd, .int .i64 y.on, .int .i64 y.od, .int .i64 y.code] 70)).cell? ⟨w1.heap.size, 5, none⟩ = some (.int .i64 x.fn) := blk_cell k2 5
  have x6 : (w2.alloc (.cells #[.string y.name, .int .i64 y.d0, .int .i64 y.d1, .int .i64 y.d2, .int .i64 y.d3, .int .i64 y.fn, .int .i64 y.fd, .int .i64 y.on, .int .i64 y.od, .int .i64 y.code] 70)).cell? ⟨w1.heap.size, 6, none⟩ = some (.int .i64 x.fd) := blk_cell k2 6
  have x7 : (w2.alloc (.cells #[.string y.name, .int .i64 y.d0, .int .i64 y.d1, .int .i64 y.d2, .int .i64 y.d3, .int .i64 y.fn, .int .i64 y.fd, .int .i64 y.on, .int .i64 y.od, .int .i64 y.code] 70)).cell? ⟨w1.heap.size, 7, none⟩ = some (.int .i64 x.on) := blk_cell k2 7
  have x8 : (w2.alloc (.cells #[.string y.name, .int .i64 y.d0, .int .i64 y.d1, .int .i64 y.d2, .int .i64 y.d3, .int .i64 y.fn, .int .i64 y.fd, .int .i64 y.on, .int .i64 y.od, .int .i64 y.code] 70)).cell? ⟨w1.heap.size, 8, none⟩ = some (.int .i64 x.od) := blk_cell k2 8
  have x9 : (w2.alloc (.cells #[.string y.name, .int .i64 y.d0, .int .i64 y.d1, .int .i64 y.d2, .int .i64 y.d3, .int .i64 y.fn, .int .i64 y.fd, .int .i64 y.on, .int .i64 y.od, .int .i64 y.code] 70)).cell? ⟨w1.heap.size, 9, none⟩ = some (.int .i64 x.code) := blk_cell k2 9
  have y0 : (w2.alloc (.cells #[.string y.name, .int .i64 y.d0, .int .i64 y.d1, .int .i64 y.d2, .int .i64 y.d3, .int .i64 y.fn, .int .i64 y.fd, .int .i64 y.on, .int .i64 y.od, .int .i64 y.code] 70)).cell? ⟨w2.heap.size, 0, none⟩ = some (.string y.name) := blk_cell k3 0
  have y1 : (w2.alloc (.cells #[.string y.name, .int .i64 y.d0, .int .i64 y.d1, .int .i64 y.d2, .int .i64 y.d3, .int .i64 y.fn, .int .i64 y.fd, .int .i64 y.on, .int .i64 y.od, .int .i64 y.code] 70)).cell? ⟨w2.heap.size, 1, none⟩ = some (.int .i64 y.d0) := blk_cell k3 1
  have y2 : (w2.alloc (.cells #[.string y.name, .int .i64 y.d0, .int .i64 y.d1, .int .i64 y.d2, .int .i64 y.d3, .int .i64 y.fn, .int .i64 y.fd, .int .i64 y.on, .int .i64 y.od, .int .i64 y.code] 70)).cell? ⟨w2.heap.size, 2, none⟩ = some (.int .i64 y.d1) := blk_cell k3 2
  have y3 : (w2.alloc (.cells #[.string y.name, .int .i64 y.d0, .int .i64 y.d1, .int .i64 y.d2, .int .i64 y.d3, .int .i64 y.fn, .int .i64 y.fd, .int .i64 y.on, .int .i64 y.od, .int .i64 y.code] 70)).cell? ⟨w2.heap.size, 3, none⟩ = some (.int .i64 y.d2) := blk_cell k3 3
  have y4 : (w2.alloc (.cells #[.string y.name, .int .i64 y.d0, .int .i64 y.d1, .int .i64 y.d2, .int .i64 y.d3, .int .i64 y.fn, .int .i64 y.fd, .int .i64 y.on, .int .i64 y.od, .int .i64 y.code] 70)).cell? ⟨w2.heap.size, 4, none⟩ = some (.int .i64 y.d3) := blk_cell k3 4
  have y5 : (w2.alloc (.cells #[.string y.name, .int .i64 y.d0, .int .i64 y.d1, .int .i64 y.d2, .int .i64 y.d3, .int .i64 y.fn, .int .i64 y.fd, .int .i64 y.on, .int .i64 y.od, .int .i64 y.code] 70)).cell? ⟨w2.heap.size, 5, none⟩ = some (.int .i64 y.fn) := blk_cell k3 5
  have y6 : (w2.alloc (.cells #[.string y.name, .int .i64 y.d0, .int .i64 y.d1, .int .i64 y.d2, .int .i64 y.d3, .int .i64 y.fn, .int .i64 y.fd, .int .i64 y.on, .int .i64 y.od, .int .i64 y.code] 70)).cell? ⟨w2.heap.size, 6, none⟩ = some (.int .i64 y.fd) := blk_cell k3 6
  have y7 : (w2.alloc (.cells #[.string y.name, .int .i64 y.d0, .int .i64 y.d1, .int .i64 y.d2, .int .i64 y.d3, .int .i64 y.fn, .int .i64 y.fd, .int .i64 y.on, .int .i64 y.od, .int .i64 y.code] 70)).cell? ⟨w2.heap.size, 7, none⟩ = some (.int .i64 y.on) := blk_cell k3 7
  have y8 : (w2.alloc (.cells #[.string y.name, .int .i64 y.d0, .int .i64 y.d1, .int .i64 y.d2, .int .i64 y.d3, .int .i64 y.fn, .int .i64 y.fd, .int .i64 y.on, .int .i64 y.od, .int .i64 y.code] 70)).cell? ⟨w2.heap.size, 8, none⟩ = some (.int .i64 y.od) := blk_cell k3 8
  have y9 : (w2.alloc (.cells #[.string y.name, .int .i64 y.d0, .int .i64 y.d1, .int .i64 y.d2, .int .i64 y.d3, .int .i64 y.fn, .int .i64 y.fd, .int .i64 y.on, .int .i64 y.od, .int .i64 y.code] 70)).cell? ⟨w2.heap.size, 9, none⟩ = some (.int .i64 y.code) := blk_cell k3 9
  go_wp2_with fail
  go_ret
  exact ⟨rfl, hB2⟩
theorem like_calls (a b : ByteArray) (w : World) : Calls Try.prog 40 #[.string a, .string b] w fun e w' => e = .returned (.bool (likeR a b)) ∧ Below w.heap.size w w' := by
  unfold likeR
  cases hx : find a with
  | none => exact like_off a b (.inl hx) w
  | some x =>
    cases hy : find b with
    | none => exact like_off a b (.inr hy) w
    | some y => exact like_on a b x y hx hy w
end Go.Proofs.Ytcldlfhnmkogeaa.UnitLike

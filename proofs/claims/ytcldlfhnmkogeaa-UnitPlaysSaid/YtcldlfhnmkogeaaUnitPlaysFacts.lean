import Derived.Test.YtcldlfhnmkogeaaUnitLike
import Derived.Test.YtcldlfhnmkogeaaRefFind
import Derived.Test.YtcldlfhnmkogeaaUnitNames
/- What the law UnitPlays asks, in plain Lean. -/
set_option linter.unusedVariables false
set_option linter.unusedSimpArgs false
namespace Go.Proofs.Ytcldlfhnmkogeaa.Unit
open Go.RowKit Go.Proofs.Ytcldlfhnmkogeaa.RatPlain Go.Proofs.Ytcldlfhnmkogeaa.Scale Go.Proofs.Ytcldlfhnmkogeaa.UnitLike

theorem count_one {f : URow → List UInt8} {c : List UInt8} : ∀ l : List URow, l.Pairwise (fun x y => f x ≠ f y) → l.countP (fun u => f u == c) = if (l.find? (fun u => f u == c)).isSome = true then 1 else 0
  | [], _ => rfl
  | x :: l, h => by
    obtain ⟨h1, h2⟩ := List.pairwise_cons.1 h
    have ih := count_one (c := c) l h2
    rw [List.countP_cons, List.find?_cons]
    by_cases e : f x = c
    · have e2 : (f x == c) = true := by simp [e]
      have hz : l.countP (fun u => f u == c) = 0 := by
        rw [List.countP_eq_zero]
        intro y hy
        have := h1 y hy
        rw [e] at this
        simpa using fun k => this k.symm
      rw [hz, e2]
      rfl
    · have e2 : (f x == c) = false := by simp [e]
      rw [e2, ih]
      simp
theorem units_apart : units.Pairwise (fun x y => x.name.toList ≠ y.name.toList) := by decide +kernel
/-- A name is counted once, or not at all. -/
theorem count_units (a : ByteArray) : units.countP (fun u => u.name.toList == a.toList) = if (find a).isSome = true then 1 else 0 := count_one (f := fun u => u.name.toList) units units_apart
/-- What is known ahead. -/
structure Known (a b : ByteArray) (u v : URow) (nm : ByteArray) (oa ob lk : Bool) : Prop where
  fa : ∀ w, Calls Try.prog 39 #[.string a] w fun e W' => e = .returned (.tuple #[.agg #[.string u.name, .int .i64 u.d0, .int .i64 u.d1, .int .i64 u.d2, .int .i64 u.d3, .int .i64 u.fn, .int .i64 u.fd, .int .i64 u.on, .int .i64 u.od, .int .i64 u.code], .bool oa]) ∧ Below w.heap.size w W'
  ra : ∀ w, Calls Try.prog 30 #[.string a] w fun e W' => e = .returned (.tuple #[.agg #[.string nm, .int .i64 u.d0, .int .i64 u.d1, .int .i64 u.d2, .int .i64 u.d3, .int .i64 u.fn, .int .i64 u.fd, .int .i64 u.on, .int .i64 u.od, .int .i64 u.code], .bool oa]) ∧ Below w.heap.size w W'
  rb : ∀ w, Calls Try.prog 30 #[.string b] w fun e W' => e = .returned (.tuple #[.agg #[.string v.name, .int .i64 v.d0, .int .i64 v.d1, .int .i64 v.d2, .int .i64 v.d3, .int .i64 v.fn, .int .i64 v.fd, .int .i64 v.on, .int .i64 v.od, .int .i64 v.code], .bool ob]) ∧ Below w.heap.size w W'
  name : u.name.toList = nm.toList
  same : ∀ w, (Op.equalIn 10000 46 (.agg #[.int .i64 u.d0, .int .i64 u.d1, .int .i64 u.d2, .int .i64 u.d3]) (.agg #[.int .i64 u.d0, .int .i64 u.d1, .int .i64 u.d2, .int .i64 u.d3])).run Try.prog w = .ok true w
  off : oa = false ∨ ob = false → lk = false
  on : oa = true → ob = true → (∀ w, (Op.equalIn 10000 46 (.agg #[.int .i64 u.d0, .int .i64 u.d1, .int .i64 u.d2, .int .i64 u.d3]) (.agg #[.int .i64 v.d0, .int .i64 v.d1, .int .i64 v.d2, .int .i64 v.d3])).run Try.prog w = .ok lk w)
  count : units.countP (fun u => u.name.toList == a.toList) = if oa = true then 1 else 0
theorem like_dims (x y : URow) (n : ByteArray) : likeU x { y with name := n } = likeU x y := rfl
theorem dims_zero : ∀ w, (Op.equalIn 10000 46 (.agg #[.int .i64 0, .int .i64 0, .int .i64 0, .int .i64 0]) (.agg #[.int .i64 0, .int .i64 0, .int .i64 0, .int .i64 0])).run Try.prog w = .ok true w := by
  have h0 : I64 0 := by decide
  exact eq4 h0 h0 h0 h0 h0 h0 h0 h0
theorem known (a b : ByteArray) : ∃ u v nm oa ob, Known a b u v nm oa ob (likeR a b) := by
  have fa := find_calls a
  have ra := reffind_calls a
  have rb := reffind_calls b
  have hc := count_units a
  unfold likeR
  cases hx : find a with
  | none =>
    rw [refRow_none hx] at ra
    simp only [hx] at fa ra hc
    exact ⟨zrow, refRow b, zrow.name, false, (find b).isSome, ⟨fa, ra, rb, rfl, dims_zero, fun _ => rfl, fun h => (by cases h), hc⟩⟩
  | some x =>
    rw [refRow_some hx] at ra
    simp only [hx] at fa ra hc
    have hn : x.name.toList = a.toList := by
      have := List.find?_some hx
      simpa using this
    have hs := eqU hx hx
    have hl : likeU x x := ⟨rfl, rfl, rfl, rfl⟩
    simp only [decide_eq_true hl] at hs
    cases hy : find b with
    | none =>
      simp only [hy] at rb
      exact ⟨x, refRow b, a, true, false, ⟨fa, ra, rb, hn, hs, fun _ => rfl, fun _ h => (by cases h), hc⟩⟩
    | some y =>
      rw [refRow_some hy] at rb
      simp only [hy] at rb
      exact ⟨x, { y with name := b }, a, true, true, ⟨fa, ra, rb, hn, hs, fun h => (by rcases h with h | h <;> cases h), fun _ _ => (eqU hx hy :), hc⟩⟩
end Go.Proofs.Ytcldlfhnmkogeaa.Unit

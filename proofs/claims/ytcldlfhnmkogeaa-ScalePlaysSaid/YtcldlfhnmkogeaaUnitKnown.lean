import Derived.Test.YtcldlfhnmkogeaaRefUnit
/- What is known of a conversion, the document's and the program's. -/
set_option linter.unusedVariables false
set_option linter.unusedSimpArgs false
namespace Go.Proofs.Ytcldlfhnmkogeaa.Unit
open Go.RowKit Go.Proofs.Ytcldlfhnmkogeaa.RatPlain Go.Proofs.Ytcldlfhnmkogeaa.Scale Go.Proofs.Ytcldlfhnmkogeaa.RefWalk

/-- What is known ahead. -/
structure KnownC (a b : ByteArray) (vn vd x1 x2 x3 : Int) (u v : URow) (oa ob : Bool) : Prop where
  missing : oa = false ∨ ob = false → (x1, x2, x3) = ((0, 0, 4) : Int × Int × Int)
  eqs : oa = true → ob = true → ∀ w, (Op.equalIn 10000 46 (.agg #[.int .i64 u.d0, .int .i64 u.d1, .int .i64 u.d2, .int .i64 u.d3]) (.agg #[.int .i64 v.d0, .int .i64 v.d1, .int .i64 v.d2, .int .i64 v.d3])).run Try.prog w = .ok (decide (likeU u v)) w
  unlike : oa = true → ob = true → ¬ likeU u v → (x1, x2, x3) = ((0, 0, 5) : Int × Int × Int)
  wrong : oa = true → ob = true → likeU u v → ¬ Rt vn vd → (x1, x2, x3) = ((0, 0, 1) : Int × Int × Int)
  fine : oa = true → ob = true → likeU u v → Rt vn vd → ∃ M, (∀ w, Calls Try.prog 31 #[.agg #[.int .i64 vn, .int .i64 vd], .agg #[.string u.name, .int .i64 u.d0, .int .i64 u.d1, .int .i64 u.d2, .int .i64 u.d3, .int .i64 u.fn, .int .i64 u.fd, .int .i64 u.on, .int .i64 u.od, .int .i64 u.code], .agg #[.string v.name, .int .i64 v.d0, .int .i64 v.d1, .int .i64 v.d2, .int .i64 v.d3, .int .i64 v.fn, .int .i64 v.fd, .int .i64 v.on, .int .i64 v.od, .int .i64 v.code]] w fun e w' => e = ansB (toldB M) ∧ Below w.heap.size w w') ∧ (x1, x2, x3) = outO M
theorem knownC (a b : ByteArray) {vn vd x1 x2 x3 : Int} (h1 : I64 vn) (h2 : I64 vd) (h : convR a b vn vd = (x1, x2, x3)) : KnownC a b vn vd x1 x2 x3 (refRow a) (refRow b) (find a).isSome (find b).isSome := by
  constructor
  · intro hm
    rw [← h]
    unfold convR
    cases hx : find a with
    | none => rfl
    | some x =>
      cases hy : find b with
      | none => rfl
      | some y => rw [hx, hy] at hm; rcases hm with hm | hm <;> cases hm
  · intro ha hb
    obtain ⟨x, hx⟩ := Option.isSome_iff_exists.1 ha
    obtain ⟨y, hy⟩ := Option.isSome_iff_exists.1 hb
    rw [refRow_some hx, refRow_some hy]
    exact (eqU hx hy :)
  · intro ha hb hl
    obtain ⟨x, hx⟩ := Option.isSome_iff_exists.1 ha
    obtain ⟨y, hy⟩ := Option.isSome_iff_exists.1 hb
    rw [refRow_some hx, refRow_some hy] at hl
    rw [← h]
    unfold convR
    rw [hx, hy]
    exact if_neg hl
  · intro ha hb hl hv
    obtain ⟨x, hx⟩ := Option.isSome_iff_exists.1 ha
    obtain ⟨y, hy⟩ := Option.isSome_iff_exists.1 hb
    rw [refRow_some hx, refRow_some hy] at hl
    rw [← h]
    unfold convR
    rw [hx, hy]
    exact (if_pos hl).trans (if_neg hv)
  · intro ha hb hl hv
    obtain ⟨x, hx⟩ := Option.isSome_iff_exists.1 ha
    obtain ⟨y, hy⟩ := Option.isSome_iff_exists.1 hb
    rw [refRow_some hx, refRow_some hy] at hl
    refine ⟨convB (refRow a) (refRow b) vn vd, ?_, ?_⟩
    · have gx := find_good hx
      have gy := find_good hy
      rw [refRow_some hx, refRow_some hy]
      exact fun w => refconv_calls { x with name := a } { y with name := b } gx gy h1 h2 hv w
    · rw [← h]
      exact conv_doc hx hy hl hv

end Go.Proofs.Ytcldlfhnmkogeaa.Unit

import Derived.Test.YtmnohhmnkmnikaaRowKit
import Derived.Test.YtmnohhmnkmnikaaRatPlain
/- Fractions and fields, opened for the rows. -/
set_option linter.unusedVariables false
namespace Go.Proofs.Ytmnohhmnkmnikaa.RowKit0
open Go.ChangeShapes Go.WideShapes Go.ChangeAt Go.RowKit
open Go.Proofs.YtmnohhmnkmnikaaW.PrintWords Go.Proofs.Ytmnohhmnkmnikaa.Nats Go.Proofs.Ytmnohhmnkmnikaa.RatPlain
section
variable {H : Type} {enc : TypeId × Value → H} {w : World} {base b0 : Nat} {r : Reach} {spare : Nat → Bool} {held : Bool}
set_option maxRecDepth 100000 in
theorem cells_ratio {fuel : Nat} {cs : List Value} {x : DataW H × List MemPlace} (hl : cs.length = 2) (h : DataW.trod enc Try.prog w base spare held fuel 49 cs = some x) :
    ∃ n d : Int, cs = [.int .i64 n, .int .i64 d] ∧ I64 n ∧ I64 d := by
  obtain ⟨xs, n, _, _, _, hlen, hg⟩ := DataW.trod_struct Try.underlying49 h
  match cs, hl with
  | [c0, c1], _ =>
    match xs, hlen with
    | [y0, y1], _ =>
      have e2 : Try.prog.cellsOf 2 = 1 := by kernel_rfl
      have h0 : DataW.trod enc Try.prog w base spare held n 2 [c0] = some y0 := one_field hg 0 _ rfl _ _ _ rfl rfl e2
      obtain ⟨n0, g0, _, w0⟩ := DataW.trod_int Try.underlying2 h0
      have h1 : DataW.trod enc Try.prog w base spare held n 2 [c1] = some y1 := one_field hg 1 _ rfl _ _ _ rfl rfl e2
      obtain ⟨n1, g1, _, w1⟩ := DataW.trod_int Try.underlying2 h1
      simp only [List.cons.injEq, and_true] at g0 g1
      exact ⟨n0, n1, by rw [g0, g1], bounds_i64 w0, bounds_i64 w1⟩
set_option maxRecDepth 100000 in
theorem open_ratio {X : Option TypeDesc} {v : Value} {d : DataW H} {p : List MemPlace} (ht : Try.prog.underlying 49 = X)
    (hv : Value.okWide Try.prog w r b0 49 v) (h : DataW.Trod enc Try.prog w base spare held 49 v d p) :
    ∃ n d : Int, v = .agg #[.int .i64 n, .int .i64 d] ∧ I64 n ∧ I64 d := by
  have e23 : Try.prog.cellsOf 49 = 2 := by kernel_rfl
  obtain ⟨cs, rfl, hsz⟩ := okWide_struct Try.underlying49 hv
  obtain ⟨l⟩ := cs
  obtain ⟨fuel, hf⟩ := h
  obtain ⟨n, d, e, h1, h2⟩ := cells_ratio (hsz.trans e23) hf
  have e' : l = [.int .i64 n, .int .i64 d] := e
  exact ⟨n, d, by rw [e'], h1, h2⟩
set_option maxRecDepth 100000 in
theorem open_field {X : Option TypeDesc} {v : Value} {d : DataW H} {p : List MemPlace} (ht : Try.prog.underlying 51 = X)
    (hv : Value.okWide Try.prog w r b0 51 v) (h : DataW.Trod enc Try.prog w base spare held 51 v d p) :
    ∃ (f0 : ByteArray) (f1 : Int) (f2 : ByteArray) (f3 sn sd on od : Int) (f8 : ByteArray), v = .agg #[.string f0, .int .i64 f1, .string f2, .int .i64 f3, .int .i64 sn, .int .i64 sd, .int .i64 on, .int .i64 od, .string f8] ∧ I64 sn ∧ I64 sd ∧ I64 on ∧ I64 od ∧ f8.size ≤ maxLen := by
  have hs := Try.underlying51
  have hC : Try.prog.cellsOf 51 = 9 := by kernel_rfl
  obtain ⟨cs, rfl, hsz⟩ := okWide_struct hs hv
  obtain ⟨l⟩ := cs
  obtain ⟨fuel, hf⟩ := h
  obtain ⟨xs, n, _, _, _, hlen, hg⟩ := DataW.trod_struct hs hf
  match l, hsz.trans hC with
  | [c0, c1, c2, c3, c4, c5, c6, c7, c8], _ =>
    match xs, hlen with
    | [y0, y1, y2, y3, y4, y5, y6], _ =>
      have e3 : Try.prog.cellsOf 3 = 1 := by kernel_rfl
      have e9 : Try.prog.cellsOf 9 = 1 := by kernel_rfl
      have e23 : Try.prog.cellsOf 49 = 2 := by kernel_rfl
      have h0 : DataW.trod enc Try.prog w base spare held n 9 [c0] = some y0 := one_field hg 0 _ rfl _ _ _ rfl rfl e9
      obtain ⟨n0, g0, _, _⟩ := DataW.trod_string Try.underlying9 h0
      have h1 : DataW.trod enc Try.prog w base spare held n 3 [c1] = some y1 := one_field hg 1 _ rfl _ _ _ rfl rfl e3
      obtain ⟨n1, g1, _, _⟩ := DataW.trod_int Try.underlying3 h1
      have h2 : DataW.trod enc Try.prog w base spare held n 9 [c2] = some y2 := one_field hg 2 _ rfl _ _ _ rfl rfl e9
      obtain ⟨n2, g2, _, _⟩ := DataW.trod_string Try.underlying9 h2
      have h3 : DataW.trod enc Try.prog w base spare held n 3 [c3] = some y3 := one_field hg 3 _ rfl _ _ _ rfl rfl e3
      obtain ⟨n3, g3, _, _⟩ := DataW.trod_int Try.underlying3 h3
      have h4 : DataW.trod enc Try.prog w base spare held n 49 [c4, c5] = some y4 := one_field hg 4 _ rfl _ _ _ rfl rfl e23
      obtain ⟨sn, sd, g4, i1, i2⟩ := cells_ratio rfl h4
      have h5 : DataW.trod enc Try.prog w base spare held n 49 [c6, c7] = some y5 := one_field hg 5 _ rfl _ _ _ rfl rfl e23
      obtain ⟨on, od, g5, i3, i4⟩ := cells_ratio rfl h5
      have h6 : DataW.trod enc Try.prog w base spare held n 9 [c8] = some y6 := one_field hg 6 _ rfl _ _ _ rfl rfl e9
      obtain ⟨n6, g6, _, z6⟩ := DataW.trod_string Try.underlying9 h6
      simp only [List.cons.injEq, and_true] at g0 g1 g2 g3 g4 g5 g6
      exact ⟨n0, n1, n2, n3, sn, sd, on, od, n6, by rw [g0, g1, g2, g3, g4.1, g4.2, g5.1, g5.2, g6], i1, i2, i3, i4, z6⟩
end
end Go.Proofs.Ytmnohhmnkmnikaa.RowKit0

import Derived.Test.YtcldlfhnmkogeaaRows
import Derived.Test.YtcldlfhnmkogeaaNats
import Derived.Test.YtcldlfhnmkogeaaWSized
import Derived.Test.YtcldlfhnmkogeaaWApart
import Derived.WalkKit
import Derived.ProofKit
import Derived.OpenShut
import Derived.ShutString
import Derived.ChangeOld
import Derived.Below
import Derived.SizedLaws
/- Arguments opened for the rows: bytes as natural numbers. -/
set_option linter.unusedVariables false
namespace Go.Proofs.Ytcldlfhnmkogeaa.RowKit0
open Go.ChangeShapes Go.WideShapes Go.ChangeAt Go.RowKit
open Go.ChangeMaps (open_string shut_string)
open Go.Proofs.YtcldlfhnmkogeaaW.PrintWords Go.Proofs.Ytcldlfhnmkogeaa.Nats

theorem own : ownKnob Try.prog.godebug = none := by kernel_rfl
theorem laidOut : laidOutB Try.prog = true := by kernel_rfl

theorem wf_u8 {n : Int} (h : (Lit.int .u8 n).wf = true) : 0 ≤ n ∧ n ≤ 255 := by
  simp [Lit.wf, IntKind.min, IntKind.max, IntKind.signed, IntKind.bits] at h
  omega
section
variable {H : Type} {enc : TypeId × Value → H} {P : Program} {w : World} {base : Nat} {spare : Nat → Bool} {held : Bool}
/-- A slice of bytes, opened: what stands up to its length, as natural numbers. -/
theorem open_bytes {t e : TypeId} (ht : P.underlying t = some (.slice e)) (he : P.underlying e = some (.int .u8)) (hC : P.cellsOf e = 1) {a : Option Addr} {len cap : Nat} {d : DataW H} {p : List MemPlace}
    (h : DataW.Trod enc P w base spare held t (.slice a len cap) d p) :
    ∃ l : List Nat, l.length = len ∧ (∀ x ∈ l, x < 256) ∧ len ≤ cap ∧ cap ≤ maxLen ∧ Kd.C (Kd.int .u8) w a len (ints l) := by
  obtain ⟨fuel, hf⟩ := h
  rcases open_ints ht he hC hf with ⟨hcs, _⟩ | ⟨x, l, c, zs, hcs, _, hl, hm, hz, _, hcell, hwz⟩
  · simp [Value.cells] at hcs
    obtain ⟨rfl, rfl, rfl⟩ := hcs
    exact ⟨[], rfl, by simp, Nat.le_refl _, by simp [maxLen], Kd.C_nil _ _⟩
  · simp [Value.cells] at hcs
    obtain ⟨rfl, rfl, rfl⟩ := hcs
    have hz' : len ≤ zs.length := by
      have := hz
      split at this <;> omega
    refine ⟨(zs.take len).map Int.toNat, by simp; omega, ?_, hl, hm, ?_⟩
    · intro y hy
      obtain ⟨z, hz1, rfl⟩ := List.mem_map.1 hy
      have := wf_u8 (hwz z (List.mem_of_mem_take hz1))
      omega
    · have hi : ints ((zs.take len).map Int.toNat) = zs.take len := by
        unfold ints
        rw [List.map_map]
        conv => rhs; rw [← List.map_id (zs.take len)]
        apply List.map_congr_left
        intro z hz1
        have := wf_u8 (hwz z (List.mem_of_mem_take hz1))
        simp; omega
      rw [hi]
      have h1 : len ≤ 9223372036854775807 := by unfold maxLen at hm; omega
      refine Kd.C_of_reads (d := 0) ⟨by simp; omega, h1, fun hn => ⟨_, rfl, fun j hj => ?_⟩⟩
      rw [hcell j (by omega)]
      simp [List.getD_eq_getElem?_getD, hj]
end

theorem wf_u32 {n : Int} (h : (Lit.int .u32 n).wf = true) : ∃ v : Nat, n = (v : Int) ∧ v < 4294967296 := by
  have := bounds_u32 h
  exact ⟨n.toNat, by omega, by omega⟩
section
variable {H : Type} {enc : TypeId × Value → H} {P : Program} {w : World} {base : Nat} {spare : Nat → Bool} {held : Bool}
theorem one_field {fs : Array Field} {n : Nat} {cs : List Value} {xs : List (DataW H × List MemPlace)}
    (hg : ∀ (i : Nat) (f : Field), fs[i]? = some f → DataW.trod enc P w base spare held n f.type ((cs.drop f.offset).take (P.cellsOf f.type)) = xs[i]?)
    (i : Nat) (f : Field) (hf : fs[i]? = some f) (t o m : Nat) (ht : f.type = t) (ho : f.offset = o) (hc : P.cellsOf t = m) : DataW.trod enc P w base spare held n t ((cs.drop o).take m) = xs[i]? := by
  subst ht
  subst ho
  have := hg i f hf
  rwa [hc] at this
end
section
variable {H : Type} {enc : TypeId × Value → H} {w : World} {base b0 : Nat} {r : Reach} {spare : Nat → Bool} {held : Bool}
set_option maxRecDepth 100000 in
/-- A kind of sum by value, opened. -/
theorem open_kind {t : TypeId} {v : Value} {d : DataW H} {p : List MemPlace} (ht : Try.prog.underlying t = Try.prog.underlying 121) (hC : Try.prog.cellsOf t = 5)
    (hv : Value.okWide Try.prog w r b0 t v) (h : DataW.Trod enc Try.prog w base spare held t v d p) :
    ∃ (wd : Int) (p f : Nat) (tu : Bool) (last : Nat), v = .agg #[.int .i64 wd, .int .u32 (p : Int), .int .u32 (f : Int), .bool tu, .int .u32 (last : Int)] ∧ p < 4294967296 ∧ f < 4294967296 ∧ last < 4294967296 := by
  have hs := ht.trans Try.underlying121
  obtain ⟨cs, rfl, hsz⟩ := okWide_struct hs hv
  obtain ⟨l⟩ := cs
  obtain ⟨fuel, hf⟩ := h
  obtain ⟨xs, n, _, _, _, hlen, hg⟩ := DataW.trod_struct hs hf
  match l, hsz.trans hC with
  | [c0, c1, c2, c3, c4], _ =>
    match xs, hlen with
    | [y0, y1, y2, y3, y4], _ =>
      have e3 : Try.prog.cellsOf 3 = 1 := by kernel_rfl
      have e60 : Try.prog.cellsOf 118 = 1 := by kernel_rfl
      have e4 : Try.prog.cellsOf 4 = 1 := by kernel_rfl
      have h0 : DataW.trod enc Try.prog w base spare held n 3 [c0] = some y0 := one_field hg 0 _ rfl _ _ _ rfl rfl e3
      obtain ⟨n0, g0, _, _⟩ := DataW.trod_int Try.underlying3 h0
      have h1 : DataW.trod enc Try.prog w base spare held n 118 [c1] = some y1 := one_field hg 1 _ rfl _ _ _ rfl rfl e60
      obtain ⟨n1, g1, _, w1⟩ := DataW.trod_int Try.underlying118 h1
      have h2 : DataW.trod enc Try.prog w base spare held n 118 [c2] = some y2 := one_field hg 2 _ rfl _ _ _ rfl rfl e60
      obtain ⟨n2, g2, _, w2⟩ := DataW.trod_int Try.underlying118 h2
      have h3 : DataW.trod enc Try.prog w base spare held n 4 [c3] = some y3 := one_field hg 3 _ rfl _ _ _ rfl rfl e4
      obtain ⟨n3, g3, _⟩ := DataW.trod_bool Try.underlying4 h3
      have h4 : DataW.trod enc Try.prog w base spare held n 118 [c4] = some y4 := one_field hg 4 _ rfl _ _ _ rfl rfl e60
      obtain ⟨n4, g4, _, w4⟩ := DataW.trod_int Try.underlying118 h4
      obtain ⟨v1, rfl, l1⟩ := wf_u32 w1
      obtain ⟨v2, rfl, l2⟩ := wf_u32 w2
      obtain ⟨v4, rfl, l4⟩ := wf_u32 w4
      simp only [List.cons.injEq, and_true] at g0 g1 g2 g3 g4
      exact ⟨n0, v1, v2, n3, v4, by rw [g0, g1, g2, g3, g4], l1, l2, l4⟩
end
end Go.Proofs.Ytcldlfhnmkogeaa.RowKit0

import Derived.Test.YtcmofedfbjpjlaaRowKit
import Derived.Test.YtcmofedfbjpjlaaRingLaw
import Derived.Deep.SlicePairs
/- The acts, opened for the rows. -/
set_option linter.unusedVariables false
namespace Go.Proofs.Ytcmofedfbjpjlaa.RowKit0
open Go.ChangeShapes Go.WideShapes Go.ChangeAt Go.RowKit Go.Deep
open Go.Proofs.YtcmofedfbjpjlaaW.PrintWords Go.Proofs.Ytcmofedfbjpjlaa.Nats Go.Proofs.Ytcmofedfbjpjlaa.RingLaw
section
variable {H : Type} {enc : TypeId × Value → H} {w : World} {base : Nat} {spare : Nat → Bool} {held : Bool}
theorem open_acts {t : TypeId} (ht : Try.prog.underlying t = some (.slice 29)) {a : Option Addr} {len cap : Nat} {d : DataW H} {p : List MemPlace}
    (h : DataW.Trod enc Try.prog w base spare held t (.slice a len cap) d p) :
    ∃ l : List (Bool × Int), l.length = len ∧ len ≤ cap ∧ cap ≤ maxLen ∧ Acts w a l ∧ ∀ q ∈ l, (Lit.int .i64 q.2).wf = true := by
  obtain ⟨fuel, hf⟩ := h
  have h4 : Try.prog.cellsOf 4 = 1 := by kernel_rfl
  have h3 : Try.prog.cellsOf 3 = 1 := by kernel_rfl
  rcases open_slice_pairs ht Try.underlying29 (by kernel_rfl) rfl rfl h4 h3 hf with ⟨hcs, _⟩ | ⟨x, ln, c, m, n, V0, V1, D0, D1, P0, P1, hcs, _, hl, hm, hmm, _, hcell⟩
  · simp [Value.cells] at hcs
    obtain ⟨rfl, rfl, rfl⟩ := hcs
    exact ⟨[], rfl, Nat.le_refl _, by simp [maxLen], fun i hi => absurd hi (by simp), by simp⟩
  · simp [Value.cells] at hcs
    obtain ⟨rfl, rfl, rfl⟩ := hcs
    have hlm : len ≤ m := by rw [hmm]; split <;> omega
    have each : ∀ i, i < len → ∃ q : Bool × Int, w.cell? (x.add (i * 2)) = some (.bool q.1) ∧ w.cell? (x.add (i * 2 + 1)) = some (.int .i64 q.2) ∧ (Lit.int .i64 q.2).wf = true := by
      intro i hi
      obtain ⟨c0, c1, t0, t1⟩ := hcell i (by omega)
      obtain ⟨b, hb, _⟩ := DataW.trod_bool Try.underlying4 t0
      obtain ⟨z, hz, _, hw⟩ := DataW.trod_int Try.underlying3 t1
      simp only [List.cons.injEq, and_true] at hb hz
      exact ⟨(b, z), by rw [c0, hb], by rw [c1, hz], hw⟩
    obtain ⟨q, hq⟩ := choose_lt each
    refine ⟨(List.range len).map q, by simp, hl, hm, fun i hi => ?_, fun y hy => ?_⟩
    · have hi' : i < len := by simpa using hi
      have e : ((List.range len).map q).getD i (false, 0) = q i := by simp [List.getD_eq_getElem?_getD, hi']
      rw [e]
      exact ⟨x, rfl, (hq i hi').1, (hq i hi').2.1⟩
    · obtain ⟨i, hi, rfl⟩ := List.mem_map.1 hy
      exact (hq i (List.mem_range.1 hi)).2.2
end
end Go.Proofs.Ytcmofedfbjpjlaa.RowKit0

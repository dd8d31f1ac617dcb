import Derived.Test.YtmnohhmnkmnikaaRows
import Derived.Test.YtmnohhmnkmnikaaNats
import Derived.SizedLaws
import Derived.ChangeSlices
import Derived.Test.YtmnohhmnkmnikaaWApart
import Derived.WalkKit
import Derived.ProofKit
import Derived.OpenShut
import Derived.ShutString
import Derived.ChangeOld
import Derived.Below
/- Arguments opened for the rows: bytes as natural numbers. -/
set_option linter.unusedVariables false
namespace Go.Proofs.Ytmnohhmnkmnikaa.RowKit0
open Go.ChangeShapes Go.WideShapes Go.ChangeAt Go.RowKit
open Go.ChangeMaps (open_string shut_string)
open Go.Proofs.YtmnohhmnkmnikaaW.PrintWords Go.Proofs.Ytmnohhmnkmnikaa.Nats

theorem own : ownKnob Try.prog.godebug = none := by kernel_rfl
theorem laidOut : laidOutB Try.prog = true := by kernel_rfl

theorem wf_u8 {n : Int} (h : (Lit.int .u8 n).wf = true) : 0 ≤ n ∧ n ≤ 255 := by
  simp [Lit.wf, IntKind.min, IntKind.max, IntKind.signed, IntKind.bits] at h
  omega
section
variable {H : Type} {enc : TypeId × Value → H} {P : Program} {w : World} {base : Nat} {spare : Nat → Bool} {held : Bool}
/-- A slice of bytes, opened: what stands up to its length, as natural numbers. -/
theorem open_bytes {t e : TypeId} (ht : P.underlying t = some (.slice e)) (he : P.underlying e = some (.int .u8)) (hC : P.cellsOf e = 1) {a : Option Addr} {len cap : Nat} {d : DataW H} {p : List MemPlace}
    (h : DataW.Trod enc P w base spare held t (.slice a len cap) d p) :
    ∃ l : List Nat, l.length = len ∧ (∀ x ∈ l, x < 256) ∧ len ≤ cap ∧ cap ≤ maxLen ∧ Kd.C (Kd.int .u8) w a len (ints l) := by
  obtain ⟨fuel, hf⟩ := h
  rcases open_ints ht he hC hf with ⟨hcs, _⟩ | ⟨x, l, c, zs, hcs, _, hl, hm, hz, _, hcell, hwz⟩
  · simp [Value.cells] at hcs
    obtain ⟨rfl, rfl, rfl⟩ := hcs
    exact ⟨[], rfl, by simp, Nat.le_refl _, by simp [maxLen], Kd.C_nil _ _⟩
  · simp [Value.cells] at hcs
    obtain ⟨rfl, rfl, rfl⟩ := hcs
    have hz' : len ≤ zs.length := by
      have := hz
      split at this <;> omega
    refine ⟨(zs.take len).map Int.toNat, by simp; omega, ?_, hl, hm, ?_⟩
    · intro y hy
      obtain ⟨z, hz1, rfl⟩ := List.mem_map.1 hy
      have := wf_u8 (hwz z (List.mem_of_mem_take hz1))
      omega
    · have hi : ints ((zs.take len).map Int.toNat) = zs.take len := by
        unfold ints
        rw [List.map_map]
        conv => rhs; rw [← List.map_id (zs.take len)]
        apply List.map_congr_left
        intro z hz1
        have := wf_u8 (hwz z (List.mem_of_mem_take hz1))
        simp; omega
      rw [hi]
      have h1 : len ≤ 9223372036854775807 := by unfold maxLen at hm; omega
      refine Kd.C_of_reads (d := 0) ⟨by simp; omega, h1, fun hn => ⟨_, rfl, fun j hj => ?_⟩⟩
      rw [hcell j (by omega)]
      simp [List.getD_eq_getElem?_getD, hj]
end

theorem wf_u32 {n : Int} (h : (Lit.int .u32 n).wf = true) : ∃ v : Nat, n = (v : Int) ∧ v < 4294967296 := by
  have := bounds_u32 h
  exact ⟨n.toNat, by omega, by omega⟩
section
variable {H : Type} {enc : TypeId × Value → H} {P : Program} {w : World} {base : Nat} {spare : Nat → Bool} {held : Bool}
theorem one_field {fs : Array Field} {n : Nat} {cs : List Value} {xs : List (DataW H × List MemPlace)}
    (hg : ∀ (i : Nat) (f : Field), fs[i]? = some f → DataW.trod enc P w base spare held n f.type ((cs.drop f.offset).take (P.cellsOf f.type)) = xs[i]?)
    (i : Nat) (f : Field) (hf : fs[i]? = some f) (t o m : Nat) (ht : f.type = t) (ho : f.offset = o) (hc : P.cellsOf t = m) : DataW.trod enc P w base spare held n t ((cs.drop o).take m) = xs[i]? := by
  subst ht
  subst ho
  have := hg i f hf
  rwa [hc] at this
end
end Go.Proofs.Ytmnohhmnkmnikaa.RowKit0

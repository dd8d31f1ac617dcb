/-
  No cell of these rows narrows 'for every input' (looked for: loops, veiled, ifaces, maps, wideKeys, modest, calm, conditions, laid).
  DERIVED. THE GIVEN ROWS OF THIS SEAT. 2 by the template 'for every input the law returns true; each argument reads behind the call as it read before'; 0 by the template 'total and deterministic' (their statements: YtmnohhmnkmnikaaTotals.lean).
  GIVEN WITH THE SEED: the statements are not yours to turn. If you find one false, say at which input.
  Laid BY PROGRAM, IN A SANDBOX (cutbox-rows.mjs): the forced cells as the released guide's own fill.sh prints them over the translation 3ea4793b6833390f… (all of the seat's roots in one cut). By AI agents, Wed Nov 11 2026. No macro, syntax, notation, axiom, sorry.
-/
import Derived.Test.YtmnohhmnkmnikaaChecked
import GoSem.Claim
import GoSem.ClaimJoined
import GoSem.ClaimMapViews
import Derived.JoinedTies
import Derived.KernelRfl
namespace Go.Proofs.Ytmnohhmnkmnikaa
/- THE CELL 'sum', in the pinned program and in every row, IS THE sha256 OF THE DUMP (.gsa) THAT YtmnohhmnkmnikaaProg.lean LOADS. Nothing in Lean hashes anything: it is a label: what it is worth is what the hold of that sum in a sandbox is worth. -/
noncomputable def Try.pinned : Pinned := { name := "ytmnohhmnkmnikaa", sum := "3ea4793b6833390f8665907386b07d6dfcab46d2ab74c3210549bd35e7ed0bd6", checked := Try.checked }
namespace Rows
def none {H : Type} : Left H := { results := [], args := [] }

/-- 'lancettop.TopAlike': WHATEVER THE INPUT: true; the input reads as it did. -/
def topAlikeSpec : ChangeSpec := { name := "topAlike", fn := fun _ => fun
  | [d1, d2, d3, d4, d5, d6] => { results := [.lit (.bool true)], args := [d1, d2, d3, d4, d5, d6] }
  | _ => none }
def topAlikeRow : OpenClaim := { program := "ytmnohhmnkmnikaa", sum := "3ea4793b6833390f8665907386b07d6dfcab46d2ab74c3210549bd35e7ed0bd6", func := "lancet/lancettop.TopAlike", spec := "topAlike", inPlace := ["internal/bytealg.IndexByte"], unfollowed := true, recurses := true, plainKeys := false, apart := false }
def TopAlikeSaid : Prop := topAlikeRow.holds Try.pinned (OpenSpec.ofChange topAlikeSpec)

/-- ITS FALSE NEIGHBOUR: 'it returns false'. Refute it at one input. -/
def topAlikeWrong : ChangeSpec := { name := "topAlike", fn := fun _ => fun
  | [d1, d2, d3, d4, d5, d6] => { results := [.lit (.bool false)], args := [d1, d2, d3, d4, d5, d6] }
  | _ => none }
def TopAlikeWrongFalsely : Prop := topAlikeRow.holds Try.pinned (OpenSpec.ofChange topAlikeWrong)

/-- 'lancettop.TopUnits': WHATEVER THE INPUT: true; the input reads as it did. -/
def topUnitsSpec : ChangeSpec := { name := "topUnits", fn := fun _ => fun
  | [d1, d2, d3, d4] => { results := [.lit (.bool true)], args := [d1, d2, d3, d4] }
  | _ => none }
def topUnitsRow : OpenClaim := { program := "ytmnohhmnkmnikaa", sum := "3ea4793b6833390f8665907386b07d6dfcab46d2ab74c3210549bd35e7ed0bd6", func := "lancet/lancettop.TopUnits", spec := "topUnits", unfollowed := true, recurses := true, plainKeys := false, apart := false }
def TopUnitsSaid : Prop := topUnitsRow.holds Try.pinned (OpenSpec.ofChange topUnitsSpec)

/-- ITS FALSE NEIGHBOUR: 'it returns false'. Refute it at one input. -/
def topUnitsWrong : ChangeSpec := { name := "topUnits", fn := fun _ => fun
  | [d1, d2, d3, d4] => { results := [.lit (.bool false)], args := [d1, d2, d3, d4] }
  | _ => none }
def TopUnitsWrongFalsely : Prop := topUnitsRow.holds Try.pinned (OpenSpec.ofChange topUnitsWrong)

/- THE SECOND FORM. 'bulk': how many values and letters a reading holds, each counted each time it is reached (what is shared counts as often as it is met; a slice's spare places count too). A statement '..UptoSaid' is the law's where the arguments, and the package variables that the reading takes, are together of bulk at most 1048576: NARROWER than '..Said'. Prove '..Said' where nothing that the law and all that it calls make is longer than what came in: it says more and counts as full. Else prove '..UptoSaid'. A law counts once. -/
mutual
def uptoBulk {H : Type} : DataW H → Nat
  | .lit (.string bytes) => bytes.length + 1
  | .lit _ => 1
  | .nil => 1
  | .ptr d => uptoBulk d + 1
  | .slice elems spare => uptoBulkAll elems + uptoBulkAll spare + 1
  | .agg parts => uptoBulkAll parts + 1
  | .iface _ d => uptoBulk d + 1
  | .map entries => uptoBulkEntries entries + 1
  | .held _ => 1
def uptoBulkAll {H : Type} : List (DataW H) → Nat
  | [] => 0
  | d :: r => uptoBulk d + uptoBulkAll r
def uptoBulkEntries {H : Type} : List (Lit × DataW H) → Nat
  | [] => 0
  | x :: r => uptoBulkEntry x + uptoBulkEntries r
def uptoBulkEntry {H : Type} : Lit × DataW H → Nat
  | (.string bytes, d) => bytes.length + uptoBulk d + 1
  | (_, d) => uptoBulk d + 1
 end
def uptoSmall : (H : Type) → List (DataW H) → Bool := fun _ ds => decide (uptoBulkAll ds ≤ 1048576)
def OpenSpec.upto (s : _root_.Go.ChangeSpec) : _root_.Go.OpenSpec := { _root_.Go.OpenSpec.ofChange s with cond := some uptoSmall }

/-- 'lancettop.TopAlike', WHERE WHAT IT READS IS OF BULK AT MOST 1048576: true; the input reads as it did. -/
def topAlikeUptoRow : OpenClaim := { program := "ytmnohhmnkmnikaa", sum := "3ea4793b6833390f8665907386b07d6dfcab46d2ab74c3210549bd35e7ed0bd6", func := "lancet/lancettop.TopAlike", spec := "topAlike", inPlace := ["internal/bytealg.IndexByte"], unfollowed := true, recurses := true, plainKeys := false, apart := false, narrowed := true }
def TopAlikeUptoSaid : Prop := topAlikeUptoRow.holds Try.pinned (OpenSpec.upto topAlikeSpec)

/-- 'lancettop.TopUnits', WHERE WHAT IT READS IS OF BULK AT MOST 1048576: true; the input reads as it did. -/
def topUnitsUptoRow : OpenClaim := { program := "ytmnohhmnkmnikaa", sum := "3ea4793b6833390f8665907386b07d6dfcab46d2ab74c3210549bd35e7ed0bd6", func := "lancet/lancettop.TopUnits", spec := "topUnits", unfollowed := true, recurses := true, plainKeys := false, apart := false, narrowed := true }
def TopUnitsUptoSaid : Prop := topUnitsUptoRow.holds Try.pinned (OpenSpec.upto topUnitsSpec)

end Rows
end Go.Proofs.Ytmnohhmnkmnikaa

/-
  No cell of these rows narrows 'for every input' (looked for: loops, veiled, ifaces, maps, wideKeys, modest, calm, conditions, laid).
  DERIVED. THE GIVEN ROWS OF THIS SEAT. 13 by the template 'for every input the law returns true; each argument reads behind the call as it read before'; 0 by the template 'total and deterministic' (their statements: YtcmofedfbjpjlaaTotals.lean).
  GIVEN WITH THE SEED: the statements are not yours to turn. If you find one false, say at which input.
  Laid BY PROGRAM, IN A SANDBOX (cutbox-rows.mjs): the forced cells as the released guide's own fill.sh prints them over the translation 24dc4738622539b7… (all of the seat's roots in one cut). By AI agents, Wed Nov 11 2026. No macro, syntax, notation, axiom, sorry.
-/
import Derived.Test.YtcmofedfbjpjlaaChecked
import GoSem.Claim
import GoSem.ClaimJoined
import GoSem.ClaimMapViews
import Derived.JoinedTies
import Derived.KernelRfl
namespace Go.Proofs.Ytcmofedfbjpjlaa
/- THE CELL 'sum', in the pinned program and in every row, IS THE sha256 OF THE DUMP (.gsa) THAT YtcmofedfbjpjlaaProg.lean LOADS. Nothing in Lean hashes anything: it is a label: what it is worth is what the hold of that sum in a sandbox is worth. -/
noncomputable def Try.pinned : Pinned := { name := "ytcmofedfbjpjlaa", sum := "24dc4738622539b7fa4e72f3ce96875a159b0d5e9ddde8a910a92f7ebc564d3c", checked := Try.checked }
namespace Rows
def none {H : Type} : Left H := { results := [], args := [] }

/-- 'lancetlaw22.RingOrder': WHATEVER THE INPUT: true; the input reads as it did. -/
def ringOrderSpec : ChangeSpec := { name := "ringOrder", fn := fun _ => fun
  | [d1, d2] => { results := [.lit (.bool true)], args := [d1, d2] }
  | _ => none }
def ringOrderRow : OpenClaim := { program := "ytcmofedfbjpjlaa", sum := "24dc4738622539b7fa4e72f3ce96875a159b0d5e9ddde8a910a92f7ebc564d3c", func := "lancet/lancetlaw22.RingOrder", spec := "ringOrder", unfollowed := true, recurses := true, apart := false }
def RingOrderSaid : Prop := ringOrderRow.holds Try.pinned (OpenSpec.ofChange ringOrderSpec)

/-- ITS FALSE NEIGHBOUR: 'it returns false'. Refute it at one input. -/
def ringOrderWrong : ChangeSpec := { name := "ringOrder", fn := fun _ => fun
  | [d1, d2] => { results := [.lit (.bool false)], args := [d1, d2] }
  | _ => none }
def RingOrderWrongFalsely : Prop := ringOrderRow.holds Try.pinned (OpenSpec.ofChange ringOrderWrong)

/-- 'lancetlaw22.RingPlays': WHATEVER THE INPUT: true; the input reads as it did. -/
def ringPlaysSpec : ChangeSpec := { name := "ringPlays", fn := fun _ => fun
  | [d1, d2] => { results := [.lit (.bool true)], args := [d1, d2] }
  | _ => none }
def ringPlaysRow : OpenClaim := { program := "ytcmofedfbjpjlaa", sum := "24dc4738622539b7fa4e72f3ce96875a159b0d5e9ddde8a910a92f7ebc564d3c", func := "lancet/lancetlaw22.RingPlays", spec := "ringPlays", unfollowed := true, recurses := true, apart := false }
def RingPlaysSaid : Prop := ringPlaysRow.holds Try.pinned (OpenSpec.ofChange ringPlaysSpec)

/-- ITS FALSE NEIGHBOUR: 'it returns false'. Refute it at one input. -/
def ringPlaysWrong : ChangeSpec := { name := "ringPlays", fn := fun _ => fun
  | [d1, d2] => { results := [.lit (.bool false)], args := [d1, d2] }
  | _ => none }
def RingPlaysWrongFalsely : Prop := ringPlaysRow.holds Try.pinned (OpenSpec.ofChange ringPlaysWrong)

/-- 'lancetlaw22.RingCounts': WHATEVER THE INPUT: true; the input reads as it did. -/
def ringCountsSpec : ChangeSpec := { name := "ringCounts", fn := fun _ => fun
  | [d1, d2] => { results := [.lit (.bool true)], args := [d1, d2] }
  | _ => none }
def ringCountsRow : OpenClaim := { program := "ytcmofedfbjpjlaa", sum := "24dc4738622539b7fa4e72f3ce96875a159b0d5e9ddde8a910a92f7ebc564d3c", func := "lancet/lancetlaw22.RingCounts", spec := "ringCounts", unfollowed := true, recurses := true, apart := false }
def RingCountsSaid : Prop := ringCountsRow.holds Try.pinned (OpenSpec.ofChange ringCountsSpec)

/-- ITS FALSE NEIGHBOUR: 'it returns false'. Refute it at one input. -/
def ringCountsWrong : ChangeSpec := { name := "ringCounts", fn := fun _ => fun
  | [d1, d2] => { results := [.lit (.bool false)], args := [d1, d2] }
  | _ => none }
def RingCountsWrongFalsely : Prop := ringCountsRow.holds Try.pinned (OpenSpec.ofChange ringCountsWrong)

/-- 'lancetlaw22.RingKinds': WHATEVER THE INPUT: true; the input reads as it did. -/
def ringKindsSpec : ChangeSpec := { name := "ringKinds", fn := fun _ => fun
  | [d1, d2] => { results := [.lit (.bool true)], args := [d1, d2] }
  | _ => none }
def ringKindsRow : OpenClaim := { program := "ytcmofedfbjpjlaa", sum := "24dc4738622539b7fa4e72f3ce96875a159b0d5e9ddde8a910a92f7ebc564d3c", func := "lancet/lancetlaw22.RingKinds", spec := "ringKinds", unfollowed := true, recurses := true, apart := false }
def RingKindsSaid : Prop := ringKindsRow.holds Try.pinned (OpenSpec.ofChange ringKindsSpec)

/-- ITS FALSE NEIGHBOUR: 'it returns false'. Refute it at one input. -/
def ringKindsWrong : ChangeSpec := { name := "ringKinds", fn := fun _ => fun
  | [d1, d2] => { results := [.lit (.bool false)], args := [d1, d2] }
  | _ => none }
def RingKindsWrongFalsely : Prop := ringKindsRow.holds Try.pinned (OpenSpec.ofChange ringKindsWrong)

/-- 'lancetlaw04.CrcPlays': WHATEVER THE INPUT: true; the input reads as it did. -/
def crcPlaysSpec : ChangeSpec := { name := "crcPlays", fn := fun _ => fun
  | [d1, d2] => { results := [.lit (.bool true)], args := [d1, d2] }
  | _ => none }
def crcPlaysRow : OpenClaim := { program := "ytcmofedfbjpjlaa", sum := "24dc4738622539b7fa4e72f3ce96875a159b0d5e9ddde8a910a92f7ebc564d3c", func := "lancet/lancetlaw04.CrcPlays", spec := "crcPlays", apart := false }
def CrcPlaysSaid : Prop := crcPlaysRow.holds Try.pinned (OpenSpec.ofChange crcPlaysSpec)

/-- ITS FALSE NEIGHBOUR: 'it returns false'. Refute it at one input. -/
def crcPlaysWrong : ChangeSpec := { name := "crcPlays", fn := fun _ => fun
  | [d1, d2] => { results := [.lit (.bool false)], args := [d1, d2] }
  | _ => none }
def CrcPlaysWrongFalsely : Prop := crcPlaysRow.holds Try.pinned (OpenSpec.ofChange crcPlaysWrong)

/-- 'lancetlaw04.CrcNames': WHATEVER THE INPUT: true; the input reads as it did. -/
def crcNamesSpec : ChangeSpec := { name := "crcNames", fn := fun _ => fun
  | [d1, d2] => { results := [.lit (.bool true)], args := [d1, d2] }
  | _ => none }
def crcNamesRow : OpenClaim := { program := "ytcmofedfbjpjlaa", sum := "24dc4738622539b7fa4e72f3ce96875a159b0d5e9ddde8a910a92f7ebc564d3c", func := "lancet/lancetlaw04.CrcNames", spec := "crcNames", apart := false }
def CrcNamesSaid : Prop := crcNamesRow.holds Try.pinned (OpenSpec.ofChange crcNamesSpec)

/-- ITS FALSE NEIGHBOUR: 'it returns false'. Refute it at one input. -/
def crcNamesWrong : ChangeSpec := { name := "crcNames", fn := fun _ => fun
  | [d1, d2] => { results := [.lit (.bool false)], args := [d1, d2] }
  | _ => none }
def CrcNamesWrongFalsely : Prop := crcNamesRow.holds Try.pinned (OpenSpec.ofChange crcNamesWrong)

/-- 'lancetlaw04.CrcTurns': WHATEVER THE INPUT: true; the input reads as it did. -/
def crcTurnsSpec : ChangeSpec := { name := "crcTurns", fn := fun _ => fun
  | [d1, d2] => { results := [.lit (.bool true)], args := [d1, d2] }
  | _ => none }
def crcTurnsRow : OpenClaim := { program := "ytcmofedfbjpjlaa", sum := "24dc4738622539b7fa4e72f3ce96875a159b0d5e9ddde8a910a92f7ebc564d3c", func := "lancet/lancetlaw04.CrcTurns", spec := "crcTurns", apart := false }
def CrcTurnsSaid : Prop := crcTurnsRow.holds Try.pinned (OpenSpec.ofChange crcTurnsSpec)

/-- ITS FALSE NEIGHBOUR: 'it returns false'. Refute it at one input. -/
def crcTurnsWrong : ChangeSpec := { name := "crcTurns", fn := fun _ => fun
  | [d1, d2] => { results := [.lit (.bool false)], args := [d1, d2] }
  | _ => none }
def CrcTurnsWrongFalsely : Prop := crcTurnsRow.holds Try.pinned (OpenSpec.ofChange crcTurnsWrong)

/-- 'lancetlaw04.CrcLine': WHATEVER THE INPUT: true; the input reads as it did. -/
def crcLineSpec : ChangeSpec := { name := "crcLine", fn := fun _ => fun
  | [d1, d2, d3, d4] => { results := [.lit (.bool true)], args := [d1, d2, d3, d4] }
  | _ => none }
def crcLineRow : OpenClaim := { program := "ytcmofedfbjpjlaa", sum := "24dc4738622539b7fa4e72f3ce96875a159b0d5e9ddde8a910a92f7ebc564d3c", func := "lancet/lancetlaw04.CrcLine", spec := "crcLine", apart := false }
def CrcLineSaid : Prop := crcLineRow.holds Try.pinned (OpenSpec.ofChange crcLineSpec)

/-- ITS FALSE NEIGHBOUR: 'it returns false'. Refute it at one input. -/
def crcLineWrong : ChangeSpec := { name := "crcLine", fn := fun _ => fun
  | [d1, d2, d3, d4] => { results := [.lit (.bool false)], args := [d1, d2, d3, d4] }
  | _ => none }
def CrcLineWrongFalsely : Prop := crcLineRow.holds Try.pinned (OpenSpec.ofChange crcLineWrong)

/-- 'lancetlaw04.CrcOne': WHATEVER THE INPUT: true; the input reads as it did. -/
def crcOneSpec : ChangeSpec := { name := "crcOne", fn := fun _ => fun
  | [d1, d2, d3, d4] => { results := [.lit (.bool true)], args := [d1, d2, d3, d4] }
  | _ => none }
def crcOneRow : OpenClaim := { program := "ytcmofedfbjpjlaa", sum := "24dc4738622539b7fa4e72f3ce96875a159b0d5e9ddde8a910a92f7ebc564d3c", func := "lancet/lancetlaw04.CrcOne", spec := "crcOne", apart := false }
def CrcOneSaid : Prop := crcOneRow.holds Try.pinned (OpenSpec.ofChange crcOneSpec)

/-- ITS FALSE NEIGHBOUR: 'it returns false'. Refute it at one input. -/
def crcOneWrong : ChangeSpec := { name := "crcOne", fn := fun _ => fun
  | [d1, d2, d3, d4] => { results := [.lit (.bool false)], args := [d1, d2, d3, d4] }
  | _ => none }
def CrcOneWrongFalsely : Prop := crcOneRow.holds Try.pinned (OpenSpec.ofChange crcOneWrong)

/-- 'lancetlaw05.SumsZero': WHATEVER THE INPUT: true; the input reads as it did. -/
def sumsZeroSpec : ChangeSpec := { name := "sumsZero", fn := fun _ => fun
  | [d] => { results := [.lit (.bool true)], args := [d] }
  | _ => none }
def sumsZeroRow : OpenClaim := { program := "ytcmofedfbjpjlaa", sum := "24dc4738622539b7fa4e72f3ce96875a159b0d5e9ddde8a910a92f7ebc564d3c", func := "lancet/lancetlaw05.SumsZero", spec := "sumsZero", unfollowed := true, recurses := true, apart := false }
def SumsZeroSaid : Prop := sumsZeroRow.holds Try.pinned (OpenSpec.ofChange sumsZeroSpec)

/-- ITS FALSE NEIGHBOUR: 'it returns false'. Refute it at one input. -/
def sumsZeroWrong : ChangeSpec := { name := "sumsZero", fn := fun _ => fun
  | [d] => { results := [.lit (.bool false)], args := [d] }
  | _ => none }
def SumsZeroWrongFalsely : Prop := sumsZeroRow.holds Try.pinned (OpenSpec.ofChange sumsZeroWrong)

/-- 'lancetlaw05.SumsSizes': WHATEVER THE INPUT: true; the input reads as it did. -/
def sumsSizesSpec : ChangeSpec := { name := "sumsSizes", fn := fun _ => fun
  | [d1, d2, d3] => { results := [.lit (.bool true)], args := [d1, d2, d3] }
  | _ => none }
def sumsSizesRow : OpenClaim := { program := "ytcmofedfbjpjlaa", sum := "24dc4738622539b7fa4e72f3ce96875a159b0d5e9ddde8a910a92f7ebc564d3c", func := "lancet/lancetlaw05.SumsSizes", spec := "sumsSizes", unfollowed := true, recurses := true, apart := false }
def SumsSizesSaid : Prop := sumsSizesRow.holds Try.pinned (OpenSpec.ofChange sumsSizesSpec)

/-- ITS FALSE NEIGHBOUR: 'it returns false'. Refute it at one input. -/
def sumsSizesWrong : ChangeSpec := { name := "sumsSizes", fn := fun _ => fun
  | [d1, d2, d3] => { results := [.lit (.bool false)], args := [d1, d2, d3] }
  | _ => none }
def SumsSizesWrongFalsely : Prop := sumsSizesRow.holds Try.pinned (OpenSpec.ofChange sumsSizesWrong)

/-- 'lancetlaw05.SumsOne': WHATEVER THE INPUT: true; the input reads as it did. -/
def sumsOneSpec : ChangeSpec := { name := "sumsOne", fn := fun _ => fun
  | [d1, d2, d3, d4] => { results := [.lit (.bool true)], args := [d1, d2, d3, d4] }
  | _ => none }
def sumsOneRow : OpenClaim := { program := "ytcmofedfbjpjlaa", sum := "24dc4738622539b7fa4e72f3ce96875a159b0d5e9ddde8a910a92f7ebc564d3c", func := "lancet/lancetlaw05.SumsOne", spec := "sumsOne", unfollowed := true, recurses := true, apart := false }
def SumsOneSaid : Prop := sumsOneRow.holds Try.pinned (OpenSpec.ofChange sumsOneSpec)

/-- ITS FALSE NEIGHBOUR: 'it returns false'. Refute it at one input. -/
def sumsOneWrong : ChangeSpec := { name := "sumsOne", fn := fun _ => fun
  | [d1, d2, d3, d4] => { results := [.lit (.bool false)], args := [d1, d2, d3, d4] }
  | _ => none }
def SumsOneWrongFalsely : Prop := sumsOneRow.holds Try.pinned (OpenSpec.ofChange sumsOneWrong)

/-- 'lancetlaw05.SumsPlays': WHATEVER THE INPUT: true; the input reads as it did. -/
def sumsPlaysSpec : ChangeSpec := { name := "sumsPlays", fn := fun _ => fun
  | [d1, d2, d3] => { results := [.lit (.bool true)], args := [d1, d2, d3] }
  | _ => none }
def sumsPlaysRow : OpenClaim := { program := "ytcmofedfbjpjlaa", sum := "24dc4738622539b7fa4e72f3ce96875a159b0d5e9ddde8a910a92f7ebc564d3c", func := "lancet/lancetlaw05.SumsPlays", spec := "sumsPlays", unfollowed := true, recurses := true, apart := false }
def SumsPlaysSaid : Prop := sumsPlaysRow.holds Try.pinned (OpenSpec.ofChange sumsPlaysSpec)

/-- ITS FALSE NEIGHBOUR: 'it returns false'. Refute it at one input. -/
def sumsPlaysWrong : ChangeSpec := { name := "sumsPlays", fn := fun _ => fun
  | [d1, d2, d3] => { results := [.lit (.bool false)], args := [d1, d2, d3] }
  | _ => none }
def SumsPlaysWrongFalsely : Prop := sumsPlaysRow.holds Try.pinned (OpenSpec.ofChange sumsPlaysWrong)

/- THE SECOND FORM. 'bulk': how many values and letters a reading holds, each counted each time it is reached (what is shared counts as often as it is met; a slice's spare places count too). A statement '..UptoSaid' is the law's where the arguments, and the package variables that the reading takes, are together of bulk at most 1048576: NARROWER than '..Said'. Prove '..Said' where nothing that the law and all that it calls make is longer than what came in: it says more and counts as full. Else prove '..UptoSaid'. A law counts once. -/
mutual
def uptoBulk {H : Type} : DataW H → Nat
  | .lit (.string bytes) => bytes.length + 1
  | .lit _ => 1
  | .nil => 1
  | .ptr d => uptoBulk d + 1
  | .slice elems spare => uptoBulkAll elems + uptoBulkAll spare + 1
  | .agg parts => uptoBulkAll parts + 1
  | .iface _ d => uptoBulk d + 1
  | .map entries => uptoBulkEntries entries + 1
  | .held _ => 1
def uptoBulkAll {H : Type} : List (DataW H) → Nat
  | [] => 0
  | d :: r => uptoBulk d + uptoBulkAll r
def uptoBulkEntries {H : Type} : List (Lit × DataW H) → Nat
  | [] => 0
  | x :: r => uptoBulkEntry x + uptoBulkEntries r
def uptoBulkEntry {H : Type} : Lit × DataW H → Nat
  | (.string bytes, d) => bytes.length + uptoBulk d + 1
  | (_, d) => uptoBulk d + 1
 end
def uptoSmall : (H : Type) → List (DataW H) → Bool := fun _ ds => decide (uptoBulkAll ds ≤ 1048576)
def OpenSpec.upto (s : _root_.Go.ChangeSpec) : _root_.Go.OpenSpec := { _root_.Go.OpenSpec.ofChange s with cond := some uptoSmall }

/-- 'lancetlaw22.RingOrder', WHERE WHAT IT READS IS OF BULK AT MOST 1048576: true; the input reads as it did. -/
def ringOrderUptoRow : OpenClaim := { program := "ytcmofedfbjpjlaa", sum := "24dc4738622539b7fa4e72f3ce96875a159b0d5e9ddde8a910a92f7ebc564d3c", func := "lancet/lancetlaw22.RingOrder", spec := "ringOrder", unfollowed := true, recurses := true, apart := false, narrowed := true }
def RingOrderUptoSaid : Prop := ringOrderUptoRow.holds Try.pinned (OpenSpec.upto ringOrderSpec)

/-- 'lancetlaw22.RingPlays', WHERE WHAT IT READS IS OF BULK AT MOST 1048576: true; the input reads as it did. -/
def ringPlaysUptoRow : OpenClaim := { program := "ytcmofedfbjpjlaa", sum := "24dc4738622539b7fa4e72f3ce96875a159b0d5e9ddde8a910a92f7ebc564d3c", func := "lancet/lancetlaw22.RingPlays", spec := "ringPlays", unfollowed := true, recurses := true, apart := false, narrowed := true }
def RingPlaysUptoSaid : Prop := ringPlaysUptoRow.holds Try.pinned (OpenSpec.upto ringPlaysSpec)

/-- 'lancetlaw22.RingCounts', WHERE WHAT IT READS IS OF BULK AT MOST 1048576: true; the input reads as it did. -/
def ringCountsUptoRow : OpenClaim := { program := "ytcmofedfbjpjlaa", sum := "24dc4738622539b7fa4e72f3ce96875a159b0d5e9ddde8a910a92f7ebc564d3c", func := "lancet/lancetlaw22.RingCounts", spec := "ringCounts", unfollowed := true, recurses := true, apart := false, narrowed := true }
def RingCountsUptoSaid : Prop := ringCountsUptoRow.holds Try.pinned (OpenSpec.upto ringCountsSpec)

/-- 'lancetlaw22.RingKinds', WHERE WHAT IT READS IS OF BULK AT MOST 1048576: true; the input reads as it did. -/
def ringKindsUptoRow : OpenClaim := { program := "ytcmofedfbjpjlaa", sum := "24dc4738622539b7fa4e72f3ce96875a159b0d5e9ddde8a910a92f7ebc564d3c", func := "lancet/lancetlaw22.RingKinds", spec := "ringKinds", unfollowed := true, recurses := true, apart := false, narrowed := true }
def RingKindsUptoSaid : Prop := ringKindsUptoRow.holds Try.pinned (OpenSpec.upto ringKindsSpec)

/-- 'lancetlaw04.CrcPlays', WHERE WHAT IT READS IS OF BULK AT MOST 1048576: true; the input reads as it did. -/
def crcPlaysUptoRow : OpenClaim := { program := "ytcmofedfbjpjlaa", sum := "24dc4738622539b7fa4e72f3ce96875a159b0d5e9ddde8a910a92f7ebc564d3c", func := "lancet/lancetlaw04.CrcPlays", spec := "crcPlays", apart := false, narrowed := true }
def CrcPlaysUptoSaid : Prop := crcPlaysUptoRow.holds Try.pinned (OpenSpec.upto crcPlaysSpec)

/-- 'lancetlaw04.CrcNames', WHERE WHAT IT READS IS OF BULK AT MOST 1048576: true; the input reads as it did. -/
def crcNamesUptoRow : OpenClaim := { program := "ytcmofedfbjpjlaa", sum := "24dc4738622539b7fa4e72f3ce96875a159b0d5e9ddde8a910a92f7ebc564d3c", func := "lancet/lancetlaw04.CrcNames", spec := "crcNames", apart := false, narrowed := true }
def CrcNamesUptoSaid : Prop := crcNamesUptoRow.holds Try.pinned (OpenSpec.upto crcNamesSpec)

/-- 'lancetlaw04.CrcTurns', WHERE WHAT IT READS IS OF BULK AT MOST 1048576: true; the input reads as it did. -/
def crcTurnsUptoRow : OpenClaim := { program := "ytcmofedfbjpjlaa", sum := "24dc4738622539b7fa4e72f3ce96875a159b0d5e9ddde8a910a92f7ebc564d3c", func := "lancet/lancetlaw04.CrcTurns", spec := "crcTurns", apart := false, narrowed := true }
def CrcTurnsUptoSaid : Prop := crcTurnsUptoRow.holds Try.pinned (OpenSpec.upto crcTurnsSpec)

/-- 'lancetlaw04.CrcLine', WHERE WHAT IT READS IS OF BULK AT MOST 1048576: true; the input reads as it did. -/
def crcLineUptoRow : OpenClaim := { program := "ytcmofedfbjpjlaa", sum := "24dc4738622539b7fa4e72f3ce96875a159b0d5e9ddde8a910a92f7ebc564d3c", func := "lancet/lancetlaw04.CrcLine", spec := "crcLine", apart := false, narrowed := true }
def CrcLineUptoSaid : Prop := crcLineUptoRow.holds Try.pinned (OpenSpec.upto crcLineSpec)

/-- 'lancetlaw04.CrcOne', WHERE WHAT IT READS IS OF BULK AT MOST 1048576: true; the input reads as it did. -/
def crcOneUptoRow : OpenClaim := { program := "ytcmofedfbjpjlaa", sum := "24dc4738622539b7fa4e72f3ce96875a159b0d5e9ddde8a910a92f7ebc564d3c", func := "lancet/lancetlaw04.CrcOne", spec := "crcOne", apart := false, narrowed := true }
def CrcOneUptoSaid : Prop := crcOneUptoRow.holds Try.pinned (OpenSpec.upto crcOneSpec)

/-- 'lancetlaw05.SumsZero', WHERE WHAT IT READS IS OF BULK AT MOST 1048576: true; the input reads as it did. -/
def sumsZeroUptoRow : OpenClaim := { program := "ytcmofedfbjpjlaa", sum := "24dc4738622539b7fa4e72f3ce96875a159b0d5e9ddde8a910a92f7ebc564d3c", func := "lancet/lancetlaw05.SumsZero", spec := "sumsZero", unfollowed := true, recurses := true, apart := false, narrowed := true }
def SumsZeroUptoSaid : Prop := sumsZeroUptoRow.holds Try.pinned (OpenSpec.upto sumsZeroSpec)

/-- 'lancetlaw05.SumsSizes', WHERE WHAT IT READS IS OF BULK AT MOST 1048576: true; the input reads as it did. -/
def sumsSizesUptoRow : OpenClaim := { program := "ytcmofedfbjpjlaa", sum := "24dc4738622539b7fa4e72f3ce96875a159b0d5e9ddde8a910a92f7ebc564d3c", func := "lancet/lancetlaw05.SumsSizes", spec := "sumsSizes", unfollowed := true, recurses := true, apart := false, narrowed := true }
def SumsSizesUptoSaid : Prop := sumsSizesUptoRow.holds Try.pinned (OpenSpec.upto sumsSizesSpec)

/-- 'lancetlaw05.SumsOne', WHERE WHAT IT READS IS OF BULK AT MOST 1048576: true; the input reads as it did. -/
def sumsOneUptoRow : OpenClaim := { program := "ytcmofedfbjpjlaa", sum := "24dc4738622539b7fa4e72f3ce96875a159b0d5e9ddde8a910a92f7ebc564d3c", func := "lancet/lancetlaw05.SumsOne", spec := "sumsOne", unfollowed := true, recurses := true, apart := false, narrowed := true }
def SumsOneUptoSaid : Prop := sumsOneUptoRow.holds Try.pinned (OpenSpec.upto sumsOneSpec)

/-- 'lancetlaw05.SumsPlays', WHERE WHAT IT READS IS OF BULK AT MOST 1048576: true; the input reads as it did. -/
def sumsPlaysUptoRow : OpenClaim := { program := "ytcmofedfbjpjlaa", sum := "24dc4738622539b7fa4e72f3ce96875a159b0d5e9ddde8a910a92f7ebc564d3c", func := "lancet/lancetlaw05.SumsPlays", spec := "sumsPlays", unfollowed := true, recurses := true, apart := false, narrowed := true }
def SumsPlaysUptoSaid : Prop := sumsPlaysUptoRow.holds Try.pinned (OpenSpec.upto sumsPlaysSpec)

end Rows
end Go.Proofs.Ytcmofedfbjpjlaa

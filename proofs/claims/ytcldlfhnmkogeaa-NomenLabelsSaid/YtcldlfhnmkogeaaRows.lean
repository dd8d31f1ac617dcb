/-
  No cell of these rows narrows 'for every input' (looked for: loops, veiled, ifaces, maps, wideKeys, modest, calm, conditions, laid).
  DERIVED. THE GIVEN ROWS OF THIS SEAT. 16 by the template 'for every input the law returns true; each argument reads behind the call as it read before'; 0 by the template 'total and deterministic' (their statements: YtcldlfhnmkogeaaTotals.lean).
  GIVEN WITH THE SEED: the statements are not yours to turn. If you find one false, say at which input.
  Laid BY PROGRAM, IN A SANDBOX (cutbox-rows.mjs): the forced cells as the released guide's own fill.sh prints them over the translation 891b237688e9d724… (all of the seat's roots in one cut). By AI agents, Wed Nov 11 2026. No macro, syntax, notation, axiom, sorry.
-/
import Derived.Test.YtcldlfhnmkogeaaChecked
import GoSem.Claim
import GoSem.ClaimJoined
import GoSem.ClaimMapViews
import Derived.JoinedTies
import Derived.KernelRfl
namespace Go.Proofs.Ytcldlfhnmkogeaa
/- THE CELL 'sum', in the pinned program and in every row, IS THE sha256 OF THE DUMP (.gsa) THAT YtcldlfhnmkogeaaProg.lean LOADS. Nothing in Lean hashes anything: it is a label: what it is worth is what the hold of that sum in a sandbox is worth. -/
noncomputable def Try.pinned : Pinned := { name := "ytcldlfhnmkogeaa", sum := "891b237688e9d7240e46b9dc02d5881062f1be4320682bd9fc01258a23e4dca0", checked := Try.checked }
namespace Rows
def none {H : Type} : Left H := { results := [], args := [] }

/-- 'lancetlaw19.ScaleExact': WHATEVER THE INPUT: true; the input reads as it did. -/
def scaleExactSpec : ChangeSpec := { name := "scaleExact", fn := fun _ => fun
  | [d1, d2] => { results := [.lit (.bool true)], args := [d1, d2] }
  | _ => none }
def scaleExactRow : OpenClaim := { program := "ytcldlfhnmkogeaa", sum := "891b237688e9d7240e46b9dc02d5881062f1be4320682bd9fc01258a23e4dca0", func := "lancet/lancetlaw19.ScaleExact", spec := "scaleExact", apart := false }
def ScaleExactSaid : Prop := scaleExactRow.holds Try.pinned (OpenSpec.ofChange scaleExactSpec)

/-- ITS FALSE NEIGHBOUR: 'it returns false'. Refute it at one input. -/
def scaleExactWrong : ChangeSpec := { name := "scaleExact", fn := fun _ => fun
  | [d1, d2] => { results := [.lit (.bool false)], args := [d1, d2] }
  | _ => none }
def ScaleExactWrongFalsely : Prop := scaleExactRow.holds Try.pinned (OpenSpec.ofChange scaleExactWrong)

/-- 'lancetlaw19.ScaleRaws': WHATEVER THE INPUT: true; the input reads as it did. -/
def scaleRawsSpec : ChangeSpec := { name := "scaleRaws", fn := fun _ => fun
  | [d1, d2] => { results := [.lit (.bool true)], args := [d1, d2] }
  | _ => none }
def scaleRawsRow : OpenClaim := { program := "ytcldlfhnmkogeaa", sum := "891b237688e9d7240e46b9dc02d5881062f1be4320682bd9fc01258a23e4dca0", func := "lancet/lancetlaw19.ScaleRaws", spec := "scaleRaws", apart := false }
def ScaleRawsSaid : Prop := scaleRawsRow.holds Try.pinned (OpenSpec.ofChange scaleRawsSpec)

/-- ITS FALSE NEIGHBOUR: 'it returns false'. Refute it at one input. -/
def scaleRawsWrong : ChangeSpec := { name := "scaleRaws", fn := fun _ => fun
  | [d1, d2] => { results := [.lit (.bool false)], args := [d1, d2] }
  | _ => none }
def ScaleRawsWrongFalsely : Prop := scaleRawsRow.holds Try.pinned (OpenSpec.ofChange scaleRawsWrong)

/-- 'lancetlaw19.ScaleBack': WHATEVER THE INPUT: true; the input reads as it did. -/
def scaleBackSpec : ChangeSpec := { name := "scaleBack", fn := fun _ => fun
  | [d1, d2] => { results := [.lit (.bool true)], args := [d1, d2] }
  | _ => none }
def scaleBackRow : OpenClaim := { program := "ytcldlfhnmkogeaa", sum := "891b237688e9d7240e46b9dc02d5881062f1be4320682bd9fc01258a23e4dca0", func := "lancet/lancetlaw19.ScaleBack", spec := "scaleBack", apart := false }
def ScaleBackSaid : Prop := scaleBackRow.holds Try.pinned (OpenSpec.ofChange scaleBackSpec)

/-- ITS FALSE NEIGHBOUR: 'it returns false'. Refute it at one input. -/
def scaleBackWrong : ChangeSpec := { name := "scaleBack", fn := fun _ => fun
  | [d1, d2] => { results := [.lit (.bool false)], args := [d1, d2] }
  | _ => none }
def ScaleBackWrongFalsely : Prop := scaleBackRow.holds Try.pinned (OpenSpec.ofChange scaleBackWrong)

/-- 'lancetlaw19.ScaleOrder': WHATEVER THE INPUT: true; the input reads as it did. -/
def scaleOrderSpec : ChangeSpec := { name := "scaleOrder", fn := fun _ => fun
  | [d1, d2, d3] => { results := [.lit (.bool true)], args := [d1, d2, d3] }
  | _ => none }
def scaleOrderRow : OpenClaim := { program := "ytcldlfhnmkogeaa", sum := "891b237688e9d7240e46b9dc02d5881062f1be4320682bd9fc01258a23e4dca0", func := "lancet/lancetlaw19.ScaleOrder", spec := "scaleOrder", apart := false }
def ScaleOrderSaid : Prop := scaleOrderRow.holds Try.pinned (OpenSpec.ofChange scaleOrderSpec)

/-- ITS FALSE NEIGHBOUR: 'it returns false'. Refute it at one input. -/
def scaleOrderWrong : ChangeSpec := { name := "scaleOrder", fn := fun _ => fun
  | [d1, d2, d3] => { results := [.lit (.bool false)], args := [d1, d2, d3] }
  | _ => none }
def ScaleOrderWrongFalsely : Prop := scaleOrderRow.holds Try.pinned (OpenSpec.ofChange scaleOrderWrong)

/-- 'lancetlaw03.UnitConverts': WHATEVER THE INPUT: true; the input reads as it did. -/
def unitConvertsSpec : ChangeSpec := { name := "unitConverts", fn := fun _ => fun
  | [d1, d2, d3] => { results := [.lit (.bool true)], args := [d1, d2, d3] }
  | _ => none }
def unitConvertsRow : OpenClaim := { program := "ytcldlfhnmkogeaa", sum := "891b237688e9d7240e46b9dc02d5881062f1be4320682bd9fc01258a23e4dca0", func := "lancet/lancetlaw03.UnitConverts", spec := "unitConverts", unfollowed := true, recurses := true, apart := false }
def UnitConvertsSaid : Prop := unitConvertsRow.holds Try.pinned (OpenSpec.ofChange unitConvertsSpec)

/-- ITS FALSE NEIGHBOUR: 'it returns false'. Refute it at one input. -/
def unitConvertsWrong : ChangeSpec := { name := "unitConverts", fn := fun _ => fun
  | [d1, d2, d3] => { results := [.lit (.bool false)], args := [d1, d2, d3] }
  | _ => none }
def UnitConvertsWrongFalsely : Prop := unitConvertsRow.holds Try.pinned (OpenSpec.ofChange unitConvertsWrong)

/-- 'lancetlaw03.UnitThird': WHATEVER THE INPUT: true; the input reads as it did. -/
def unitThirdSpec : ChangeSpec := { name := "unitThird", fn := fun _ => fun
  | [d1, d2, d3, d4] => { results := [.lit (.bool true)], args := [d1, d2, d3, d4] }
  | _ => none }
def unitThirdRow : OpenClaim := { program := "ytcldlfhnmkogeaa", sum := "891b237688e9d7240e46b9dc02d5881062f1be4320682bd9fc01258a23e4dca0", func := "lancet/lancetlaw03.UnitThird", spec := "unitThird", unfollowed := true, recurses := true, apart := false }
def UnitThirdSaid : Prop := unitThirdRow.holds Try.pinned (OpenSpec.ofChange unitThirdSpec)

/-- ITS FALSE NEIGHBOUR: 'it returns false'. Refute it at one input. -/
def unitThirdWrong : ChangeSpec := { name := "unitThird", fn := fun _ => fun
  | [d1, d2, d3, d4] => { results := [.lit (.bool false)], args := [d1, d2, d3, d4] }
  | _ => none }
def UnitThirdWrongFalsely : Prop := unitThirdRow.holds Try.pinned (OpenSpec.ofChange unitThirdWrong)

/-- 'lancetlaw20.NomenPlays': WHATEVER THE INPUT: true; the input reads as it did. -/
def nomenPlaysSpec : ChangeSpec := { name := "nomenPlays", fn := fun _ => fun
  | [d] => { results := [.lit (.bool true)], args := [d] }
  | _ => none }
def nomenPlaysRow : OpenClaim := { program := "ytcldlfhnmkogeaa", sum := "891b237688e9d7240e46b9dc02d5881062f1be4320682bd9fc01258a23e4dca0", func := "lancet/lancetlaw20.NomenPlays", spec := "nomenPlays", unfollowed := true, recurses := true, apart := false }
def NomenPlaysSaid : Prop := nomenPlaysRow.holds Try.pinned (OpenSpec.ofChange nomenPlaysSpec)

/-- ITS FALSE NEIGHBOUR: 'it returns false'. Refute it at one input. -/
def nomenPlaysWrong : ChangeSpec := { name := "nomenPlays", fn := fun _ => fun
  | [d] => { results := [.lit (.bool false)], args := [d] }
  | _ => none }
def NomenPlaysWrongFalsely : Prop := nomenPlaysRow.holds Try.pinned (OpenSpec.ofChange nomenPlaysWrong)

/-- 'lancetlaw20.NomenUnlike': WHATEVER THE INPUT: true; the input reads as it did. -/
def nomenUnlikeSpec : ChangeSpec := { name := "nomenUnlike", fn := fun _ => fun
  | [d1, d2] => { results := [.lit (.bool true)], args := [d1, d2] }
  | _ => none }
def nomenUnlikeRow : OpenClaim := { program := "ytcldlfhnmkogeaa", sum := "891b237688e9d7240e46b9dc02d5881062f1be4320682bd9fc01258a23e4dca0", func := "lancet/lancetlaw20.NomenUnlike", spec := "nomenUnlike", unfollowed := true, recurses := true, apart := false }
def NomenUnlikeSaid : Prop := nomenUnlikeRow.holds Try.pinned (OpenSpec.ofChange nomenUnlikeSpec)

/-- ITS FALSE NEIGHBOUR: 'it returns false'. Refute it at one input. -/
def nomenUnlikeWrong : ChangeSpec := { name := "nomenUnlike", fn := fun _ => fun
  | [d1, d2] => { results := [.lit (.bool false)], args := [d1, d2] }
  | _ => none }
def NomenUnlikeWrongFalsely : Prop := nomenUnlikeRow.holds Try.pinned (OpenSpec.ofChange nomenUnlikeWrong)

/-- 'lancetlaw03.UnitLikes': WHATEVER THE INPUT: true; the input reads as it did. -/
def unitLikesSpec : ChangeSpec := { name := "unitLikes", fn := fun _ => fun
  | [d1, d2, d3, d4] => { results := [.lit (.bool true)], args := [d1, d2, d3, d4] }
  | _ => none }
def unitLikesRow : OpenClaim := { program := "ytcldlfhnmkogeaa", sum := "891b237688e9d7240e46b9dc02d5881062f1be4320682bd9fc01258a23e4dca0", func := "lancet/lancetlaw03.UnitLikes", spec := "unitLikes", unfollowed := true, recurses := true, apart := false }
def UnitLikesSaid : Prop := unitLikesRow.holds Try.pinned (OpenSpec.ofChange unitLikesSpec)

/-- ITS FALSE NEIGHBOUR: 'it returns false'. Refute it at one input. -/
def unitLikesWrong : ChangeSpec := { name := "unitLikes", fn := fun _ => fun
  | [d1, d2, d3, d4] => { results := [.lit (.bool false)], args := [d1, d2, d3, d4] }
  | _ => none }
def UnitLikesWrongFalsely : Prop := unitLikesRow.holds Try.pinned (OpenSpec.ofChange unitLikesWrong)

/-- 'lancetlaw03.UnitPlays': WHATEVER THE INPUT: true; the input reads as it did. -/
def unitPlaysSpec : ChangeSpec := { name := "unitPlays", fn := fun _ => fun
  | [d1, d2] => { results := [.lit (.bool true)], args := [d1, d2] }
  | _ => none }
def unitPlaysRow : OpenClaim := { program := "ytcldlfhnmkogeaa", sum := "891b237688e9d7240e46b9dc02d5881062f1be4320682bd9fc01258a23e4dca0", func := "lancet/lancetlaw03.UnitPlays", spec := "unitPlays", unfollowed := true, recurses := true, apart := false }
def UnitPlaysSaid : Prop := unitPlaysRow.holds Try.pinned (OpenSpec.ofChange unitPlaysSpec)

/-- ITS FALSE NEIGHBOUR: 'it returns false'. Refute it at one input. -/
def unitPlaysWrong : ChangeSpec := { name := "unitPlays", fn := fun _ => fun
  | [d1, d2] => { results := [.lit (.bool false)], args := [d1, d2] }
  | _ => none }
def UnitPlaysWrongFalsely : Prop := unitPlaysRow.holds Try.pinned (OpenSpec.ofChange unitPlaysWrong)

/-- 'lancetlaw19.ScalePlays': WHATEVER THE INPUT: true; the input reads as it did. -/
def scalePlaysSpec : ChangeSpec := { name := "scalePlays", fn := fun _ => fun
  | [d1, d2, d3] => { results := [.lit (.bool true)], args := [d1, d2, d3] }
  | _ => none }
def scalePlaysRow : OpenClaim := { program := "ytcldlfhnmkogeaa", sum := "891b237688e9d7240e46b9dc02d5881062f1be4320682bd9fc01258a23e4dca0", func := "lancet/lancetlaw19.ScalePlays", spec := "scalePlays", unfollowed := true, recurses := true, apart := false }
def ScalePlaysSaid : Prop := scalePlaysRow.holds Try.pinned (OpenSpec.ofChange scalePlaysSpec)

/-- ITS FALSE NEIGHBOUR: 'it returns false'. Refute it at one input. -/
def scalePlaysWrong : ChangeSpec := { name := "scalePlays", fn := fun _ => fun
  | [d1, d2, d3] => { results := [.lit (.bool false)], args := [d1, d2, d3] }
  | _ => none }
def ScalePlaysWrongFalsely : Prop := scalePlaysRow.holds Try.pinned (OpenSpec.ofChange scalePlaysWrong)

/-- 'lancetlaw19.ScaleAgain': WHATEVER THE INPUT: true; the input reads as it did. -/
def scaleAgainSpec : ChangeSpec := { name := "scaleAgain", fn := fun _ => fun
  | [d1, d2, d3, d4] => { results := [.lit (.bool true)], args := [d1, d2, d3, d4] }
  | _ => none }
def scaleAgainRow : OpenClaim := { program := "ytcldlfhnmkogeaa", sum := "891b237688e9d7240e46b9dc02d5881062f1be4320682bd9fc01258a23e4dca0", func := "lancet/lancetlaw19.ScaleAgain", spec := "scaleAgain", unfollowed := true, recurses := true, apart := false }
def ScaleAgainSaid : Prop := scaleAgainRow.holds Try.pinned (OpenSpec.ofChange scaleAgainSpec)

/-- ITS FALSE NEIGHBOUR: 'it returns false'. Refute it at one input. -/
def scaleAgainWrong : ChangeSpec := { name := "scaleAgain", fn := fun _ => fun
  | [d1, d2, d3, d4] => { results := [.lit (.bool false)], args := [d1, d2, d3, d4] }
  | _ => none }
def ScaleAgainWrongFalsely : Prop := scaleAgainRow.holds Try.pinned (OpenSpec.ofChange scaleAgainWrong)

/-- 'lancetlaw03.UnitBack': WHATEVER THE INPUT: true; the input reads as it did. -/
def unitBackSpec : ChangeSpec := { name := "unitBack", fn := fun _ => fun
  | [d1, d2, d3, d4] => { results := [.lit (.bool true)], args := [d1, d2, d3, d4] }
  | _ => none }
def unitBackRow : OpenClaim := { program := "ytcldlfhnmkogeaa", sum := "891b237688e9d7240e46b9dc02d5881062f1be4320682bd9fc01258a23e4dca0", func := "lancet/lancetlaw03.UnitBack", spec := "unitBack", unfollowed := true, recurses := true, apart := false }
def UnitBackSaid : Prop := unitBackRow.holds Try.pinned (OpenSpec.ofChange unitBackSpec)

/-- ITS FALSE NEIGHBOUR: 'it returns false'. Refute it at one input. -/
def unitBackWrong : ChangeSpec := { name := "unitBack", fn := fun _ => fun
  | [d1, d2, d3, d4] => { results := [.lit (.bool false)], args := [d1, d2, d3, d4] }
  | _ => none }
def UnitBackWrongFalsely : Prop := unitBackRow.holds Try.pinned (OpenSpec.ofChange unitBackWrong)

/-- 'lancetlaw20.NomenLabels': WHATEVER THE INPUT: true; the input reads as it did. -/
def nomenLabelsSpec : ChangeSpec := { name := "nomenLabels", fn := fun _ => fun
  | [d] => { results := [.lit (.bool true)], args := [d] }
  | _ => none }
def nomenLabelsRow : OpenClaim := { program := "ytcldlfhnmkogeaa", sum := "891b237688e9d7240e46b9dc02d5881062f1be4320682bd9fc01258a23e4dca0", func := "lancet/lancetlaw20.NomenLabels", spec := "nomenLabels", unfollowed := true, recurses := true, apart := false }
def NomenLabelsSaid : Prop := nomenLabelsRow.holds Try.pinned (OpenSpec.ofChange nomenLabelsSpec)

/-- ITS FALSE NEIGHBOUR: 'it returns false'. Refute it at one input. -/
def nomenLabelsWrong : ChangeSpec := { name := "nomenLabels", fn := fun _ => fun
  | [d] => { results := [.lit (.bool false)], args := [d] }
  | _ => none }
def NomenLabelsWrongFalsely : Prop := nomenLabelsRow.holds Try.pinned (OpenSpec.ofChange nomenLabelsWrong)

/-- 'lancetlaw20.NomenInside': WHATEVER THE INPUT: true; the input reads as it did. -/
def nomenInsideSpec : ChangeSpec := { name := "nomenInside", fn := fun _ => fun
  | [d1, d2] => { results := [.lit (.bool true)], args := [d1, d2] }
  | _ => none }
def nomenInsideRow : OpenClaim := { program := "ytcldlfhnmkogeaa", sum := "891b237688e9d7240e46b9dc02d5881062f1be4320682bd9fc01258a23e4dca0", func := "lancet/lancetlaw20.NomenInside", spec := "nomenInside", unfollowed := true, recurses := true, apart := false }
def NomenInsideSaid : Prop := nomenInsideRow.holds Try.pinned (OpenSpec.ofChange nomenInsideSpec)

/-- ITS FALSE NEIGHBOUR: 'it returns false'. Refute it at one input. -/
def nomenInsideWrong : ChangeSpec := { name := "nomenInside", fn := fun _ => fun
  | [d1, d2] => { results := [.lit (.bool false)], args := [d1, d2] }
  | _ => none }
def NomenInsideWrongFalsely : Prop := nomenInsideRow.holds Try.pinned (OpenSpec.ofChange nomenInsideWrong)

/-- 'lancetlaw20.NomenBetween': WHATEVER THE INPUT: true; the input reads as it did. -/
def nomenBetweenSpec : ChangeSpec := { name := "nomenBetween", fn := fun _ => fun
  | [d1, d2, d3, d4] => { results := [.lit (.bool true)], args := [d1, d2, d3, d4] }
  | _ => none }
def nomenBetweenRow : OpenClaim := { program := "ytcldlfhnmkogeaa", sum := "891b237688e9d7240e46b9dc02d5881062f1be4320682bd9fc01258a23e4dca0", func := "lancet/lancetlaw20.NomenBetween", spec := "nomenBetween", unfollowed := true, recurses := true, apart := false }
def NomenBetweenSaid : Prop := nomenBetweenRow.holds Try.pinned (OpenSpec.ofChange nomenBetweenSpec)

/-- ITS FALSE NEIGHBOUR: 'it returns false'. Refute it at one input. -/
def nomenBetweenWrong : ChangeSpec := { name := "nomenBetween", fn := fun _ => fun
  | [d1, d2, d3, d4] => { results := [.lit (.bool false)], args := [d1, d2, d3, d4] }
  | _ => none }
def NomenBetweenWrongFalsely : Prop := nomenBetweenRow.holds Try.pinned (OpenSpec.ofChange nomenBetweenWrong)

/- THE SECOND FORM. 'bulk': how many values and letters a reading holds, each counted each time it is reached (what is shared counts as often as it is met; a slice's spare places count too). A statement '..UptoSaid' is the law's where the arguments, and the package variables that the reading takes, are together of bulk at most 1048576: NARROWER than '..Said'. Prove '..Said' where nothing that the law and all that it calls make is longer than what came in: it says more and counts as full. Else prove '..UptoSaid'. A law counts once. -/
mutual
def uptoBulk {H : Type} : DataW H → Nat
  | .lit (.string bytes) => bytes.length + 1
  | .lit _ => 1
  | .nil => 1
  | .ptr d => uptoBulk d + 1
  | .slice elems spare => uptoBulkAll elems + uptoBulkAll spare + 1
  | .agg parts => uptoBulkAll parts + 1
  | .iface _ d => uptoBulk d + 1
  | .map entries => uptoBulkEntries entries + 1
  | .held _ => 1
def uptoBulkAll {H : Type} : List (DataW H) → Nat
  | [] => 0
  | d :: r => uptoBulk d + uptoBulkAll r
def uptoBulkEntries {H : Type} : List (Lit × DataW H) → Nat
  | [] => 0
  | x :: r => uptoBulkEntry x + uptoBulkEntries r
def uptoBulkEntry {H : Type} : Lit × DataW H → Nat
  | (.string bytes, d) => bytes.length + uptoBulk d + 1
  | (_, d) => uptoBulk d + 1
 end
def uptoSmall : (H : Type) → List (DataW H) → Bool := fun _ ds => decide (uptoBulkAll ds ≤ 1048576)
def OpenSpec.upto (s : _root_.Go.ChangeSpec) : _root_.Go.OpenSpec := { _root_.Go.OpenSpec.ofChange s with cond := some uptoSmall }

/-- 'lancetlaw19.ScaleExact', WHERE WHAT IT READS IS OF BULK AT MOST 1048576: true; the input reads as it did. -/
def scaleExactUptoRow : OpenClaim := { program := "ytcldlfhnmkogeaa", sum := "891b237688e9d7240e46b9dc02d5881062f1be4320682bd9fc01258a23e4dca0", func := "lancet/lancetlaw19.ScaleExact", spec := "scaleExact", apart := false, narrowed := true }
def ScaleExactUptoSaid : Prop := scaleExactUptoRow.holds Try.pinned (OpenSpec.upto scaleExactSpec)

/-- 'lancetlaw19.ScaleRaws', WHERE WHAT IT READS IS OF BULK AT MOST 1048576: true; the input reads as it did. -/
def scaleRawsUptoRow : OpenClaim := { program := "ytcldlfhnmkogeaa", sum := "891b237688e9d7240e46b9dc02d5881062f1be4320682bd9fc01258a23e4dca0", func := "lancet/lancetlaw19.ScaleRaws", spec := "scaleRaws", apart := false, narrowed := true }
def ScaleRawsUptoSaid : Prop := scaleRawsUptoRow.holds Try.pinned (OpenSpec.upto scaleRawsSpec)

/-- 'lancetlaw19.ScaleBack', WHERE WHAT IT READS IS OF BULK AT MOST 1048576: true; the input reads as it did. -/
def scaleBackUptoRow : OpenClaim := { program := "ytcldlfhnmkogeaa", sum := "891b237688e9d7240e46b9dc02d5881062f1be4320682bd9fc01258a23e4dca0", func := "lancet/lancetlaw19.ScaleBack", spec := "scaleBack", apart := false, narrowed := true }
def ScaleBackUptoSaid : Prop := scaleBackUptoRow.holds Try.pinned (OpenSpec.upto scaleBackSpec)

/-- 'lancetlaw19.ScaleOrder', WHERE WHAT IT READS IS OF BULK AT MOST 1048576: true; the input reads as it did. -/
def scaleOrderUptoRow : OpenClaim := { program := "ytcldlfhnmkogeaa", sum := "891b237688e9d7240e46b9dc02d5881062f1be4320682bd9fc01258a23e4dca0", func := "lancet/lancetlaw19.ScaleOrder", spec := "scaleOrder", apart := false, narrowed := true }
def ScaleOrderUptoSaid : Prop := scaleOrderUptoRow.holds Try.pinned (OpenSpec.upto scaleOrderSpec)

/-- 'lancetlaw03.UnitConverts', WHERE WHAT IT READS IS OF BULK AT MOST 1048576: true; the input reads as it did. -/
def unitConvertsUptoRow : OpenClaim := { program := "ytcldlfhnmkogeaa", sum := "891b237688e9d7240e46b9dc02d5881062f1be4320682bd9fc01258a23e4dca0", func := "lancet/lancetlaw03.UnitConverts", spec := "unitConverts", unfollowed := true, recurses := true, apart := false, narrowed := true }
def UnitConvertsUptoSaid : Prop := unitConvertsUptoRow.holds Try.pinned (OpenSpec.upto unitConvertsSpec)

/-- 'lancetlaw03.UnitThird', WHERE WHAT IT READS IS OF BULK AT MOST 1048576: true; the input reads as it did. -/
def unitThirdUptoRow : OpenClaim := { program := "ytcldlfhnmkogeaa", sum := "891b237688e9d7240e46b9dc02d5881062f1be4320682bd9fc01258a23e4dca0", func := "lancet/lancetlaw03.UnitThird", spec := "unitThird", unfollowed := true, recurses := true, apart := false, narrowed := true }
def UnitThirdUptoSaid : Prop := unitThirdUptoRow.holds Try.pinned (OpenSpec.upto unitThirdSpec)

/-- 'lancetlaw20.NomenPlays', WHERE WHAT IT READS IS OF BULK AT MOST 1048576: true; the input reads as it did. -/
def nomenPlaysUptoRow : OpenClaim := { program := "ytcldlfhnmkogeaa", sum := "891b237688e9d7240e46b9dc02d5881062f1be4320682bd9fc01258a23e4dca0", func := "lancet/lancetlaw20.NomenPlays", spec := "nomenPlays", unfollowed := true, recurses := true, apart := false, narrowed := true }
def NomenPlaysUptoSaid : Prop := nomenPlaysUptoRow.holds Try.pinned (OpenSpec.upto nomenPlaysSpec)

/-- 'lancetlaw20.NomenUnlike', WHERE WHAT IT READS IS OF BULK AT MOST 1048576: true; the input reads as it did. -/
def nomenUnlikeUptoRow : OpenClaim := { program := "ytcldlfhnmkogeaa", sum := "891b237688e9d7240e46b9dc02d5881062f1be4320682bd9fc01258a23e4dca0", func := "lancet/lancetlaw20.NomenUnlike", spec := "nomenUnlike", unfollowed := true, recurses := true, apart := false, narrowed := true }
def NomenUnlikeUptoSaid : Prop := nomenUnlikeUptoRow.holds Try.pinned (OpenSpec.upto nomenUnlikeSpec)

/-- 'lancetlaw03.UnitLikes', WHERE WHAT IT READS IS OF BULK AT MOST 1048576: true; the input reads as it did. -/
def unitLikesUptoRow : OpenClaim := { program := "ytcldlfhnmkogeaa", sum := "891b237688e9d7240e46b9dc02d5881062f1be4320682bd9fc01258a23e4dca0", func := "lancet/lancetlaw03.UnitLikes", spec := "unitLikes", unfollowed := true, recurses := true, apart := false, narrowed := true }
def UnitLikesUptoSaid : Prop := unitLikesUptoRow.holds Try.pinned (OpenSpec.upto unitLikesSpec)

/-- 'lancetlaw03.UnitPlays', WHERE WHAT IT READS IS OF BULK AT MOST 1048576: true; the input reads as it did. -/
def unitPlaysUptoRow : OpenClaim := { program := "ytcldlfhnmkogeaa", sum := "891b237688e9d7240e46b9dc02d5881062f1be4320682bd9fc01258a23e4dca0", func := "lancet/lancetlaw03.UnitPlays", spec := "unitPlays", unfollowed := true, recurses := true, apart := false, narrowed := true }
def UnitPlaysUptoSaid : Prop := unitPlaysUptoRow.holds Try.pinned (OpenSpec.upto unitPlaysSpec)

/-- 'lancetlaw19.ScalePlays', WHERE WHAT IT READS IS OF BULK AT MOST 1048576: true; the input reads as it did. -/
def scalePlaysUptoRow : OpenClaim := { program := "ytcldlfhnmkogeaa", sum := "891b237688e9d7240e46b9dc02d5881062f1be4320682bd9fc01258a23e4dca0", func := "lancet/lancetlaw19.ScalePlays", spec := "scalePlays", unfollowed := true, recurses := true, apart := false, narrowed := true }
def ScalePlaysUptoSaid : Prop := scalePlaysUptoRow.holds Try.pinned (OpenSpec.upto scalePlaysSpec)

/-- 'lancetlaw19.ScaleAgain', WHERE WHAT IT READS IS OF BULK AT MOST 1048576: true; the input reads as it did. -/
def scaleAgainUptoRow : OpenClaim := { program := "ytcldlfhnmkogeaa", sum := "891b237688e9d7240e46b9dc02d5881062f1be4320682bd9fc01258a23e4dca0", func := "lancet/lancetlaw19.ScaleAgain", spec := "scaleAgain", unfollowed := true, recurses := true, apart := false, narrowed := true }
def ScaleAgainUptoSaid : Prop := scaleAgainUptoRow.holds Try.pinned (OpenSpec.upto scaleAgainSpec)

/-- 'lancetlaw03.UnitBack', WHERE WHAT IT READS IS OF BULK AT MOST 1048576: true; the input reads as it did. -/
def unitBackUptoRow : OpenClaim := { program := "ytcldlfhnmkogeaa", sum := "891b237688e9d7240e46b9dc02d5881062f1be4320682bd9fc01258a23e4dca0", func := "lancet/lancetlaw03.UnitBack", spec := "unitBack", unfollowed := true, recurses := true, apart := false, narrowed := true }
def UnitBackUptoSaid : Prop := unitBackUptoRow.holds Try.pinned (OpenSpec.upto unitBackSpec)

/-- 'lancetlaw20.NomenLabels', WHERE WHAT IT READS IS OF BULK AT MOST 1048576: true; the input reads as it did. -/
def nomenLabelsUptoRow : OpenClaim := { program := "ytcldlfhnmkogeaa", sum := "891b237688e9d7240e46b9dc02d5881062f1be4320682bd9fc01258a23e4dca0", func := "lancet/lancetlaw20.NomenLabels", spec := "nomenLabels", unfollowed := true, recurses := true, apart := false, narrowed := true }
def NomenLabelsUptoSaid : Prop := nomenLabelsUptoRow.holds Try.pinned (OpenSpec.upto nomenLabelsSpec)

/-- 'lancetlaw20.NomenInside', WHERE WHAT IT READS IS OF BULK AT MOST 1048576: true; the input reads as it did. -/
def nomenInsideUptoRow : OpenClaim := { program := "ytcldlfhnmkogeaa", sum := "891b237688e9d7240e46b9dc02d5881062f1be4320682bd9fc01258a23e4dca0", func := "lancet/lancetlaw20.NomenInside", spec := "nomenInside", unfollowed := true, recurses := true, apart := false, narrowed := true }
def NomenInsideUptoSaid : Prop := nomenInsideUptoRow.holds Try.pinned (OpenSpec.upto nomenInsideSpec)

/-- 'lancetlaw20.NomenBetween', WHERE WHAT IT READS IS OF BULK AT MOST 1048576: true; the input reads as it did. -/
def nomenBetweenUptoRow : OpenClaim := { program := "ytcldlfhnmkogeaa", sum := "891b237688e9d7240e46b9dc02d5881062f1be4320682bd9fc01258a23e4dca0", func := "lancet/lancetlaw20.NomenBetween", spec := "nomenBetween", unfollowed := true, recurses := true, apart := false, narrowed := true }
def NomenBetweenUptoSaid : Prop := nomenBetweenUptoRow.holds Try.pinned (OpenSpec.upto nomenBetweenSpec)

end Rows
end Go.Proofs.Ytcldlfhnmkogeaa

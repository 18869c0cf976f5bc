/-
  No cell of these rows narrows 'for every input' (looked for: loops, veiled, ifaces, maps, wideKeys, modest, calm, conditions, laid).
  DERIVED. THE GIVEN ROWS OF THIS SEAT. 9 by the template 'for every input the law returns true; each argument reads behind the call as it read before'; 0 by the template 'total and deterministic' (their statements: YtnpnmbfbdnbeoaaTotals.lean).
  GIVEN WITH THE SEED: the statements are not yours to turn. If you find one false, say at which input.
  Laid BY PROGRAM, IN A SANDBOX (cutbox-rows.mjs): the forced cells as the released guide's own fill.sh prints them over the translation 87961373f2ccae4e… (all of the seat's roots in one cut). By AI agents, Wed Nov 11 2026. No macro, syntax, notation, axiom, sorry.
-/
import Derived.Test.YtnpnmbfbdnbeoaaChecked
import GoSem.Claim
import GoSem.ClaimJoined
import GoSem.ClaimMapViews
import Derived.JoinedTies
import Derived.KernelRfl
namespace Go.Proofs.Ytnpnmbfbdnbeoaa
/- THE CELL 'sum', in the pinned program and in every row, IS THE sha256 OF THE DUMP (.gsa) THAT YtnpnmbfbdnbeoaaProg.lean LOADS. Nothing in Lean hashes anything: it is a label: what it is worth is what the hold of that sum in a sandbox is worth. -/
noncomputable def Try.pinned : Pinned := { name := "ytnpnmbfbdnbeoaa", sum := "87961373f2ccae4ebe6e7c0f5fbf98c1563ee7320cbccf748a4a3b8bda5d4453", checked := Try.checked }
namespace Rows
def none {H : Type} : Left H := { results := [], args := [] }

/-- 'sphragislaw08.CellRight': WHATEVER THE INPUT: true; the input reads as it did. -/
def cellRightSpec : ChangeSpec := { name := "cellRight", fn := fun _ => fun
  | [d1, d2, d3, d4] => { results := [.lit (.bool true)], args := [d1, d2, d3, d4] }
  | _ => none }
def cellRightRow : OpenClaim := { program := "ytnpnmbfbdnbeoaa", sum := "87961373f2ccae4ebe6e7c0f5fbf98c1563ee7320cbccf748a4a3b8bda5d4453", func := "sphragis/sphragislaw08.CellRight", spec := "cellRight", unfollowed := true, recurses := true, apart := false }
def CellRightSaid : Prop := cellRightRow.holds Try.pinned (OpenSpec.ofChange cellRightSpec)

/-- ITS FALSE NEIGHBOUR: 'it returns false'. Refute it at one input. -/
def cellRightWrong : ChangeSpec := { name := "cellRight", fn := fun _ => fun
  | [d1, d2, d3, d4] => { results := [.lit (.bool false)], args := [d1, d2, d3, d4] }
  | _ => none }
def CellRightWrongFalsely : Prop := cellRightRow.holds Try.pinned (OpenSpec.ofChange cellRightWrong)

/-- 'sphragislaw08.CellLeast': WHATEVER THE INPUT: true; the input reads as it did. -/
def cellLeastSpec : ChangeSpec := { name := "cellLeast", fn := fun _ => fun
  | [d1, d2, d3, d4] => { results := [.lit (.bool true)], args := [d1, d2, d3, d4] }
  | _ => none }
def cellLeastRow : OpenClaim := { program := "ytnpnmbfbdnbeoaa", sum := "87961373f2ccae4ebe6e7c0f5fbf98c1563ee7320cbccf748a4a3b8bda5d4453", func := "sphragis/sphragislaw08.CellLeast", spec := "cellLeast", unfollowed := true, recurses := true, apart := false }
def CellLeastSaid : Prop := cellLeastRow.holds Try.pinned (OpenSpec.ofChange cellLeastSpec)

/-- ITS FALSE NEIGHBOUR: 'it returns false'. Refute it at one input. -/
def cellLeastWrong : ChangeSpec := { name := "cellLeast", fn := fun _ => fun
  | [d1, d2, d3, d4] => { results := [.lit (.bool false)], args := [d1, d2, d3, d4] }
  | _ => none }
def CellLeastWrongFalsely : Prop := cellLeastRow.holds Try.pinned (OpenSpec.ofChange cellLeastWrong)

/-- 'sphragislaw08.CellMeets': WHATEVER THE INPUT: true; the input reads as it did. -/
def cellMeetsSpec : ChangeSpec := { name := "cellMeets", fn := fun _ => fun
  | [d1, d2, d3, d4] => { results := [.lit (.bool true)], args := [d1, d2, d3, d4] }
  | _ => none }
def cellMeetsRow : OpenClaim := { program := "ytnpnmbfbdnbeoaa", sum := "87961373f2ccae4ebe6e7c0f5fbf98c1563ee7320cbccf748a4a3b8bda5d4453", func := "sphragis/sphragislaw08.CellMeets", spec := "cellMeets", unfollowed := true, recurses := true, apart := false }
def CellMeetsSaid : Prop := cellMeetsRow.holds Try.pinned (OpenSpec.ofChange cellMeetsSpec)

/-- ITS FALSE NEIGHBOUR: 'it returns false'. Refute it at one input. -/
def cellMeetsWrong : ChangeSpec := { name := "cellMeets", fn := fun _ => fun
  | [d1, d2, d3, d4] => { results := [.lit (.bool false)], args := [d1, d2, d3, d4] }
  | _ => none }
def CellMeetsWrongFalsely : Prop := cellMeetsRow.holds Try.pinned (OpenSpec.ofChange cellMeetsWrong)

/-- 'sphragislaw08.CellFar': WHATEVER THE INPUT: true; the input reads as it did. -/
def cellFarSpec : ChangeSpec := { name := "cellFar", fn := fun _ => fun
  | [d1, d2, d3, d4, d5] => { results := [.lit (.bool true)], args := [d1, d2, d3, d4, d5] }
  | _ => none }
def cellFarRow : OpenClaim := { program := "ytnpnmbfbdnbeoaa", sum := "87961373f2ccae4ebe6e7c0f5fbf98c1563ee7320cbccf748a4a3b8bda5d4453", func := "sphragis/sphragislaw08.CellFar", spec := "cellFar", unfollowed := true, recurses := true, apart := false }
def CellFarSaid : Prop := cellFarRow.holds Try.pinned (OpenSpec.ofChange cellFarSpec)

/-- ITS FALSE NEIGHBOUR: 'it returns false'. Refute it at one input. -/
def cellFarWrong : ChangeSpec := { name := "cellFar", fn := fun _ => fun
  | [d1, d2, d3, d4, d5] => { results := [.lit (.bool false)], args := [d1, d2, d3, d4, d5] }
  | _ => none }
def CellFarWrongFalsely : Prop := cellFarRow.holds Try.pinned (OpenSpec.ofChange cellFarWrong)

/-- 'sphragislaw08.CellQuarters': WHATEVER THE INPUT: true; the input reads as it did. -/
def cellQuartersSpec : ChangeSpec := { name := "cellQuarters", fn := fun _ => fun
  | [d1, d2, d3, d4] => { results := [.lit (.bool true)], args := [d1, d2, d3, d4] }
  | _ => none }
def cellQuartersRow : OpenClaim := { program := "ytnpnmbfbdnbeoaa", sum := "87961373f2ccae4ebe6e7c0f5fbf98c1563ee7320cbccf748a4a3b8bda5d4453", func := "sphragis/sphragislaw08.CellQuarters", spec := "cellQuarters", unfollowed := true, recurses := true, apart := false }
def CellQuartersSaid : Prop := cellQuartersRow.holds Try.pinned (OpenSpec.ofChange cellQuartersSpec)

/-- ITS FALSE NEIGHBOUR: 'it returns false'. Refute it at one input. -/
def cellQuartersWrong : ChangeSpec := { name := "cellQuarters", fn := fun _ => fun
  | [d1, d2, d3, d4] => { results := [.lit (.bool false)], args := [d1, d2, d3, d4] }
  | _ => none }
def CellQuartersWrongFalsely : Prop := cellQuartersRow.holds Try.pinned (OpenSpec.ofChange cellQuartersWrong)

/-- 'sphragislaw08.CellSplits': WHATEVER THE INPUT: true; the input reads as it did. -/
def cellSplitsSpec : ChangeSpec := { name := "cellSplits", fn := fun _ => fun
  | [d1, d2, d3] => { results := [.lit (.bool true)], args := [d1, d2, d3] }
  | _ => none }
def cellSplitsRow : OpenClaim := { program := "ytnpnmbfbdnbeoaa", sum := "87961373f2ccae4ebe6e7c0f5fbf98c1563ee7320cbccf748a4a3b8bda5d4453", func := "sphragis/sphragislaw08.CellSplits", spec := "cellSplits", unfollowed := true, recurses := true, apart := false }
def CellSplitsSaid : Prop := cellSplitsRow.holds Try.pinned (OpenSpec.ofChange cellSplitsSpec)

/-- ITS FALSE NEIGHBOUR: 'it returns false'. Refute it at one input. -/
def cellSplitsWrong : ChangeSpec := { name := "cellSplits", fn := fun _ => fun
  | [d1, d2, d3] => { results := [.lit (.bool false)], args := [d1, d2, d3] }
  | _ => none }
def CellSplitsWrongFalsely : Prop := cellSplitsRow.holds Try.pinned (OpenSpec.ofChange cellSplitsWrong)

/-- 'sphragislaw08.CellCorners': WHATEVER THE INPUT: true; the input reads as it did. -/
def cellCornersSpec : ChangeSpec := { name := "cellCorners", fn := fun _ => fun
  | [d1, d2] => { results := [.lit (.bool true)], args := [d1, d2] }
  | _ => none }
def cellCornersRow : OpenClaim := { program := "ytnpnmbfbdnbeoaa", sum := "87961373f2ccae4ebe6e7c0f5fbf98c1563ee7320cbccf748a4a3b8bda5d4453", func := "sphragis/sphragislaw08.CellCorners", spec := "cellCorners", unfollowed := true, recurses := true, apart := false }
def CellCornersSaid : Prop := cellCornersRow.holds Try.pinned (OpenSpec.ofChange cellCornersSpec)

/-- ITS FALSE NEIGHBOUR: 'it returns false'. Refute it at one input. -/
def cellCornersWrong : ChangeSpec := { name := "cellCorners", fn := fun _ => fun
  | [d1, d2] => { results := [.lit (.bool false)], args := [d1, d2] }
  | _ => none }
def CellCornersWrongFalsely : Prop := cellCornersRow.holds Try.pinned (OpenSpec.ofChange cellCornersWrong)

/-- 'sphragislaw08.CellBoxes': WHATEVER THE INPUT: true; the input reads as it did. -/
def cellBoxesSpec : ChangeSpec := { name := "cellBoxes", fn := fun _ => fun
  | [d1, d2, d3, d4] => { results := [.lit (.bool true)], args := [d1, d2, d3, d4] }
  | _ => none }
def cellBoxesRow : OpenClaim := { program := "ytnpnmbfbdnbeoaa", sum := "87961373f2ccae4ebe6e7c0f5fbf98c1563ee7320cbccf748a4a3b8bda5d4453", func := "sphragis/sphragislaw08.CellBoxes", spec := "cellBoxes", unfollowed := true, recurses := true, apart := false }
def CellBoxesSaid : Prop := cellBoxesRow.holds Try.pinned (OpenSpec.ofChange cellBoxesSpec)

/-- ITS FALSE NEIGHBOUR: 'it returns false'. Refute it at one input. -/
def cellBoxesWrong : ChangeSpec := { name := "cellBoxes", fn := fun _ => fun
  | [d1, d2, d3, d4] => { results := [.lit (.bool false)], args := [d1, d2, d3, d4] }
  | _ => none }
def CellBoxesWrongFalsely : Prop := cellBoxesRow.holds Try.pinned (OpenSpec.ofChange cellBoxesWrong)

/-- 'sphragislaw08.CellInside': WHATEVER THE INPUT: true; the input reads as it did. -/
def cellInsideSpec : ChangeSpec := { name := "cellInside", fn := fun _ => fun
  | [d1, d2, d3, d4] => { results := [.lit (.bool true)], args := [d1, d2, d3, d4] }
  | _ => none }
def cellInsideRow : OpenClaim := { program := "ytnpnmbfbdnbeoaa", sum := "87961373f2ccae4ebe6e7c0f5fbf98c1563ee7320cbccf748a4a3b8bda5d4453", func := "sphragis/sphragislaw08.CellInside", spec := "cellInside", unfollowed := true, recurses := true, apart := false }
def CellInsideSaid : Prop := cellInsideRow.holds Try.pinned (OpenSpec.ofChange cellInsideSpec)

/-- ITS FALSE NEIGHBOUR: 'it returns false'. Refute it at one input. -/
def cellInsideWrong : ChangeSpec := { name := "cellInside", fn := fun _ => fun
  | [d1, d2, d3, d4] => { results := [.lit (.bool false)], args := [d1, d2, d3, d4] }
  | _ => none }
def CellInsideWrongFalsely : Prop := cellInsideRow.holds Try.pinned (OpenSpec.ofChange cellInsideWrong)

/- THE SECOND FORM. 'bulk': how many values and letters a reading holds, each counted each time it is reached (what is shared counts as often as it is met; a slice's spare places count too). A statement '..UptoSaid' is the law's where the arguments, and the package variables that the reading takes, are together of bulk at most 1048576: NARROWER than '..Said'. Prove '..Said' where nothing that the law and all that it calls make is longer than what came in: it says more and counts as full. Else prove '..UptoSaid'. A law counts once. -/
mutual
def uptoBulk {H : Type} : DataW H → Nat
  | .lit (.string bytes) => bytes.length + 1
  | .lit _ => 1
  | .nil => 1
  | .ptr d => uptoBulk d + 1
  | .slice elems spare => uptoBulkAll elems + uptoBulkAll spare + 1
  | .agg parts => uptoBulkAll parts + 1
  | .iface _ d => uptoBulk d + 1
  | .map entries => uptoBulkEntries entries + 1
  | .held _ => 1
def uptoBulkAll {H : Type} : List (DataW H) → Nat
  | [] => 0
  | d :: r => uptoBulk d + uptoBulkAll r
def uptoBulkEntries {H : Type} : List (Lit × DataW H) → Nat
  | [] => 0
  | x :: r => uptoBulkEntry x + uptoBulkEntries r
def uptoBulkEntry {H : Type} : Lit × DataW H → Nat
  | (.string bytes, d) => bytes.length + uptoBulk d + 1
  | (_, d) => uptoBulk d + 1
 end
def uptoSmall : (H : Type) → List (DataW H) → Bool := fun _ ds => decide (uptoBulkAll ds ≤ 1048576)
def OpenSpec.upto (s : _root_.Go.ChangeSpec) : _root_.Go.OpenSpec := { _root_.Go.OpenSpec.ofChange s with cond := some uptoSmall }

/-- 'sphragislaw08.CellRight', WHERE WHAT IT READS IS OF BULK AT MOST 1048576: true; the input reads as it did. -/
def cellRightUptoRow : OpenClaim := { program := "ytnpnmbfbdnbeoaa", sum := "87961373f2ccae4ebe6e7c0f5fbf98c1563ee7320cbccf748a4a3b8bda5d4453", func := "sphragis/sphragislaw08.CellRight", spec := "cellRight", unfollowed := true, recurses := true, apart := false, narrowed := true }
def CellRightUptoSaid : Prop := cellRightUptoRow.holds Try.pinned (OpenSpec.upto cellRightSpec)

/-- 'sphragislaw08.CellLeast', WHERE WHAT IT READS IS OF BULK AT MOST 1048576: true; the input reads as it did. -/
def cellLeastUptoRow : OpenClaim := { program := "ytnpnmbfbdnbeoaa", sum := "87961373f2ccae4ebe6e7c0f5fbf98c1563ee7320cbccf748a4a3b8bda5d4453", func := "sphragis/sphragislaw08.CellLeast", spec := "cellLeast", unfollowed := true, recurses := true, apart := false, narrowed := true }
def CellLeastUptoSaid : Prop := cellLeastUptoRow.holds Try.pinned (OpenSpec.upto cellLeastSpec)

/-- 'sphragislaw08.CellMeets', WHERE WHAT IT READS IS OF BULK AT MOST 1048576: true; the input reads as it did. -/
def cellMeetsUptoRow : OpenClaim := { program := "ytnpnmbfbdnbeoaa", sum := "87961373f2ccae4ebe6e7c0f5fbf98c1563ee7320cbccf748a4a3b8bda5d4453", func := "sphragis/sphragislaw08.CellMeets", spec := "cellMeets", unfollowed := true, recurses := true, apart := false, narrowed := true }
def CellMeetsUptoSaid : Prop := cellMeetsUptoRow.holds Try.pinned (OpenSpec.upto cellMeetsSpec)

/-- 'sphragislaw08.CellFar', WHERE WHAT IT READS IS OF BULK AT MOST 1048576: true; the input reads as it did. -/
def cellFarUptoRow : OpenClaim := { program := "ytnpnmbfbdnbeoaa", sum := "87961373f2ccae4ebe6e7c0f5fbf98c1563ee7320cbccf748a4a3b8bda5d4453", func := "sphragis/sphragislaw08.CellFar", spec := "cellFar", unfollowed := true, recurses := true, apart := false, narrowed := true }
def CellFarUptoSaid : Prop := cellFarUptoRow.holds Try.pinned (OpenSpec.upto cellFarSpec)

/-- 'sphragislaw08.CellQuarters', WHERE WHAT IT READS IS OF BULK AT MOST 1048576: true; the input reads as it did. -/
def cellQuartersUptoRow : OpenClaim := { program := "ytnpnmbfbdnbeoaa", sum := "87961373f2ccae4ebe6e7c0f5fbf98c1563ee7320cbccf748a4a3b8bda5d4453", func := "sphragis/sphragislaw08.CellQuarters", spec := "cellQuarters", unfollowed := true, recurses := true, apart := false, narrowed := true }
def CellQuartersUptoSaid : Prop := cellQuartersUptoRow.holds Try.pinned (OpenSpec.upto cellQuartersSpec)

/-- 'sphragislaw08.CellSplits', WHERE WHAT IT READS IS OF BULK AT MOST 1048576: true; the input reads as it did. -/
def cellSplitsUptoRow : OpenClaim := { program := "ytnpnmbfbdnbeoaa", sum := "87961373f2ccae4ebe6e7c0f5fbf98c1563ee7320cbccf748a4a3b8bda5d4453", func := "sphragis/sphragislaw08.CellSplits", spec := "cellSplits", unfollowed := true, recurses := true, apart := false, narrowed := true }
def CellSplitsUptoSaid : Prop := cellSplitsUptoRow.holds Try.pinned (OpenSpec.upto cellSplitsSpec)

/-- 'sphragislaw08.CellCorners', WHERE WHAT IT READS IS OF BULK AT MOST 1048576: true; the input reads as it did. -/
def cellCornersUptoRow : OpenClaim := { program := "ytnpnmbfbdnbeoaa", sum := "87961373f2ccae4ebe6e7c0f5fbf98c1563ee7320cbccf748a4a3b8bda5d4453", func := "sphragis/sphragislaw08.CellCorners", spec := "cellCorners", unfollowed := true, recurses := true, apart := false, narrowed := true }
def CellCornersUptoSaid : Prop := cellCornersUptoRow.holds Try.pinned (OpenSpec.upto cellCornersSpec)

/-- 'sphragislaw08.CellBoxes', WHERE WHAT IT READS IS OF BULK AT MOST 1048576: true; the input reads as it did. -/
def cellBoxesUptoRow : OpenClaim := { program := "ytnpnmbfbdnbeoaa", sum := "87961373f2ccae4ebe6e7c0f5fbf98c1563ee7320cbccf748a4a3b8bda5d4453", func := "sphragis/sphragislaw08.CellBoxes", spec := "cellBoxes", unfollowed := true, recurses := true, apart := false, narrowed := true }
def CellBoxesUptoSaid : Prop := cellBoxesUptoRow.holds Try.pinned (OpenSpec.upto cellBoxesSpec)

/-- 'sphragislaw08.CellInside', WHERE WHAT IT READS IS OF BULK AT MOST 1048576: true; the input reads as it did. -/
def cellInsideUptoRow : OpenClaim := { program := "ytnpnmbfbdnbeoaa", sum := "87961373f2ccae4ebe6e7c0f5fbf98c1563ee7320cbccf748a4a3b8bda5d4453", func := "sphragis/sphragislaw08.CellInside", spec := "cellInside", unfollowed := true, recurses := true, apart := false, narrowed := true }
def CellInsideUptoSaid : Prop := cellInsideUptoRow.holds Try.pinned (OpenSpec.upto cellInsideSpec)

end Rows
end Go.Proofs.Ytnpnmbfbdnbeoaa

/-
  No cell of these rows narrows 'for every input' (looked for: loops, veiled, ifaces, maps, wideKeys, modest, calm, conditions, laid).
  DERIVED. THE GIVEN ROWS OF THIS SEAT. 6 by the template 'for every input the law returns true; each argument reads behind the call as it read before'; 0 by the template 'total and deterministic' (their statements: YtoimgijhekahhaaTotals.lean).
  GIVEN WITH THE SEED: the statements are not yours to turn. If you find one false, say at which input.
  Laid BY PROGRAM, IN A SANDBOX (cutbox-rows.mjs): the forced cells as the released guide's own fill.sh prints them over the translation b0fd3ab82e0a2e38… (all of the seat's roots in one cut). By AI agents, Wed Nov 11 2026. No macro, syntax, notation, axiom, sorry.
-/
import Derived.Test.YtoimgijhekahhaaChecked
import GoSem.Claim
import GoSem.ClaimJoined
import GoSem.ClaimMapViews
import Derived.JoinedTies
import Derived.KernelRfl
namespace Go.Proofs.Ytoimgijhekahhaa
/- THE CELL 'sum', in the pinned program and in every row, IS THE sha256 OF THE DUMP (.gsa) THAT YtoimgijhekahhaaProg.lean LOADS. Nothing in Lean hashes anything: it is a label: what it is worth is what the hold of that sum in a sandbox is worth. -/
noncomputable def Try.pinned : Pinned := { name := "ytoimgijhekahhaa", sum := "b0fd3ab82e0a2e38d1eb3bf53e403aa632a0f69b0ea082200b0cdd03278e336b", checked := Try.checked }
namespace Rows
def none {H : Type} : Left H := { results := [], args := [] }

/-- 'sphragislaw11.FindChecks': WHATEVER THE INPUT: true; the input reads as it did. -/
def findChecksSpec : ChangeSpec := { name := "findChecks", fn := fun _ => fun
  | [d] => { results := [.lit (.bool true)], args := [d] }
  | _ => none }
def findChecksRow : OpenClaim := { program := "ytoimgijhekahhaa", sum := "b0fd3ab82e0a2e38d1eb3bf53e403aa632a0f69b0ea082200b0cdd03278e336b", func := "sphragis/sphragislaw11.FindChecks", spec := "findChecks", unfollowed := true, recurses := true, apart := false }
def FindChecksSaid : Prop := findChecksRow.holds Try.pinned (OpenSpec.ofChange findChecksSpec)

/-- ITS FALSE NEIGHBOUR: 'it returns false'. Refute it at one input. -/
def findChecksWrong : ChangeSpec := { name := "findChecks", fn := fun _ => fun
  | [d] => { results := [.lit (.bool false)], args := [d] }
  | _ => none }
def FindChecksWrongFalsely : Prop := findChecksRow.holds Try.pinned (OpenSpec.ofChange findChecksWrong)

/-- 'sphragislaw11.FindAsks': WHATEVER THE INPUT: true; the input reads as it did. -/
def findAsksSpec : ChangeSpec := { name := "findAsks", fn := fun _ => fun
  | [d1, d2] => { results := [.lit (.bool true)], args := [d1, d2] }
  | _ => none }
def findAsksRow : OpenClaim := { program := "ytoimgijhekahhaa", sum := "b0fd3ab82e0a2e38d1eb3bf53e403aa632a0f69b0ea082200b0cdd03278e336b", func := "sphragis/sphragislaw11.FindAsks", spec := "findAsks", unfollowed := true, recurses := true, apart := false }
def FindAsksSaid : Prop := findAsksRow.holds Try.pinned (OpenSpec.ofChange findAsksSpec)

/-- ITS FALSE NEIGHBOUR: 'it returns false'. Refute it at one input. -/
def findAsksWrong : ChangeSpec := { name := "findAsks", fn := fun _ => fun
  | [d1, d2] => { results := [.lit (.bool false)], args := [d1, d2] }
  | _ => none }
def FindAsksWrongFalsely : Prop := findAsksRow.holds Try.pinned (OpenSpec.ofChange findAsksWrong)

/-- 'sphragislaw11.FindQuads': WHATEVER THE INPUT: true; the input reads as it did. -/
def findQuadsSpec : ChangeSpec := { name := "findQuads", fn := fun _ => fun
  | [d1, d2] => { results := [.lit (.bool true)], args := [d1, d2] }
  | _ => none }
def findQuadsRow : OpenClaim := { program := "ytoimgijhekahhaa", sum := "b0fd3ab82e0a2e38d1eb3bf53e403aa632a0f69b0ea082200b0cdd03278e336b", func := "sphragis/sphragislaw11.FindQuads", spec := "findQuads", unfollowed := true, recurses := true, apart := false }
def FindQuadsSaid : Prop := findQuadsRow.holds Try.pinned (OpenSpec.ofChange findQuadsSpec)

/-- ITS FALSE NEIGHBOUR: 'it returns false'. Refute it at one input. -/
def findQuadsWrong : ChangeSpec := { name := "findQuads", fn := fun _ => fun
  | [d1, d2] => { results := [.lit (.bool false)], args := [d1, d2] }
  | _ => none }
def FindQuadsWrongFalsely : Prop := findQuadsRow.holds Try.pinned (OpenSpec.ofChange findQuadsWrong)

/-- 'sphragislaw11.FindLess': WHATEVER THE INPUT: true; the input reads as it did. -/
def findLessSpec : ChangeSpec := { name := "findLess", fn := fun _ => fun
  | [d1, d2, d3] => { results := [.lit (.bool true)], args := [d1, d2, d3] }
  | _ => none }
def findLessRow : OpenClaim := { program := "ytoimgijhekahhaa", sum := "b0fd3ab82e0a2e38d1eb3bf53e403aa632a0f69b0ea082200b0cdd03278e336b", func := "sphragis/sphragislaw11.FindLess", spec := "findLess", unfollowed := true, recurses := true, apart := false }
def FindLessSaid : Prop := findLessRow.holds Try.pinned (OpenSpec.ofChange findLessSpec)

/-- ITS FALSE NEIGHBOUR: 'it returns false'. Refute it at one input. -/
def findLessWrong : ChangeSpec := { name := "findLess", fn := fun _ => fun
  | [d1, d2, d3] => { results := [.lit (.bool false)], args := [d1, d2, d3] }
  | _ => none }
def FindLessWrongFalsely : Prop := findLessRow.holds Try.pinned (OpenSpec.ofChange findLessWrong)

/-- 'sphragislaw11.FindPieces': WHATEVER THE INPUT: true; the input reads as it did. -/
def findPiecesSpec : ChangeSpec := { name := "findPieces", fn := fun _ => fun
  | [d1, d2, d3] => { results := [.lit (.bool true)], args := [d1, d2, d3] }
  | _ => none }
def findPiecesRow : OpenClaim := { program := "ytoimgijhekahhaa", sum := "b0fd3ab82e0a2e38d1eb3bf53e403aa632a0f69b0ea082200b0cdd03278e336b", func := "sphragis/sphragislaw11.FindPieces", spec := "findPieces", unfollowed := true, recurses := true, apart := false }
def FindPiecesSaid : Prop := findPiecesRow.holds Try.pinned (OpenSpec.ofChange findPiecesSpec)

/-- ITS FALSE NEIGHBOUR: 'it returns false'. Refute it at one input. -/
def findPiecesWrong : ChangeSpec := { name := "findPieces", fn := fun _ => fun
  | [d1, d2, d3] => { results := [.lit (.bool false)], args := [d1, d2, d3] }
  | _ => none }
def FindPiecesWrongFalsely : Prop := findPiecesRow.holds Try.pinned (OpenSpec.ofChange findPiecesWrong)

/-- 'sphragislaw11.FindNone': WHATEVER THE INPUT: true; the input reads as it did. -/
def findNoneSpec : ChangeSpec := { name := "findNone", fn := fun _ => fun
  | [d1, d2] => { results := [.lit (.bool true)], args := [d1, d2] }
  | _ => none }
def findNoneRow : OpenClaim := { program := "ytoimgijhekahhaa", sum := "b0fd3ab82e0a2e38d1eb3bf53e403aa632a0f69b0ea082200b0cdd03278e336b", func := "sphragis/sphragislaw11.FindNone", spec := "findNone", unfollowed := true, recurses := true, apart := false }
def FindNoneSaid : Prop := findNoneRow.holds Try.pinned (OpenSpec.ofChange findNoneSpec)

/-- ITS FALSE NEIGHBOUR: 'it returns false'. Refute it at one input. -/
def findNoneWrong : ChangeSpec := { name := "findNone", fn := fun _ => fun
  | [d1, d2] => { results := [.lit (.bool false)], args := [d1, d2] }
  | _ => none }
def FindNoneWrongFalsely : Prop := findNoneRow.holds Try.pinned (OpenSpec.ofChange findNoneWrong)

/- THE SECOND FORM. 'bulk': how many values and letters a reading holds, each counted each time it is reached (what is shared counts as often as it is met; a slice's spare places count too). A statement '..UptoSaid' is the law's where the arguments, and the package variables that the reading takes, are together of bulk at most 1048576: NARROWER than '..Said'. Prove '..Said' where nothing that the law and all that it calls make is longer than what came in: it says more and counts as full. Else prove '..UptoSaid'. A law counts once. -/
mutual
def uptoBulk {H : Type} : DataW H → Nat
  | .lit (.string bytes) => bytes.length + 1
  | .lit _ => 1
  | .nil => 1
  | .ptr d => uptoBulk d + 1
  | .slice elems spare => uptoBulkAll elems + uptoBulkAll spare + 1
  | .agg parts => uptoBulkAll parts + 1
  | .iface _ d => uptoBulk d + 1
  | .map entries => uptoBulkEntries entries + 1
  | .held _ => 1
def uptoBulkAll {H : Type} : List (DataW H) → Nat
  | [] => 0
  | d :: r => uptoBulk d + uptoBulkAll r
def uptoBulkEntries {H : Type} : List (Lit × DataW H) → Nat
  | [] => 0
  | x :: r => uptoBulkEntry x + uptoBulkEntries r
def uptoBulkEntry {H : Type} : Lit × DataW H → Nat
  | (.string bytes, d) => bytes.length + uptoBulk d + 1
  | (_, d) => uptoBulk d + 1
 end
def uptoSmall : (H : Type) → List (DataW H) → Bool := fun _ ds => decide (uptoBulkAll ds ≤ 1048576)
def OpenSpec.upto (s : _root_.Go.ChangeSpec) : _root_.Go.OpenSpec := { _root_.Go.OpenSpec.ofChange s with cond := some uptoSmall }

/-- 'sphragislaw11.FindChecks', WHERE WHAT IT READS IS OF BULK AT MOST 1048576: true; the input reads as it did. -/
def findChecksUptoRow : OpenClaim := { program := "ytoimgijhekahhaa", sum := "b0fd3ab82e0a2e38d1eb3bf53e403aa632a0f69b0ea082200b0cdd03278e336b", func := "sphragis/sphragislaw11.FindChecks", spec := "findChecks", unfollowed := true, recurses := true, apart := false, narrowed := true }
def FindChecksUptoSaid : Prop := findChecksUptoRow.holds Try.pinned (OpenSpec.upto findChecksSpec)

/-- 'sphragislaw11.FindAsks', WHERE WHAT IT READS IS OF BULK AT MOST 1048576: true; the input reads as it did. -/
def findAsksUptoRow : OpenClaim := { program := "ytoimgijhekahhaa", sum := "b0fd3ab82e0a2e38d1eb3bf53e403aa632a0f69b0ea082200b0cdd03278e336b", func := "sphragis/sphragislaw11.FindAsks", spec := "findAsks", unfollowed := true, recurses := true, apart := false, narrowed := true }
def FindAsksUptoSaid : Prop := findAsksUptoRow.holds Try.pinned (OpenSpec.upto findAsksSpec)

/-- 'sphragislaw11.FindQuads', WHERE WHAT IT READS IS OF BULK AT MOST 1048576: true; the input reads as it did. -/
def findQuadsUptoRow : OpenClaim := { program := "ytoimgijhekahhaa", sum := "b0fd3ab82e0a2e38d1eb3bf53e403aa632a0f69b0ea082200b0cdd03278e336b", func := "sphragis/sphragislaw11.FindQuads", spec := "findQuads", unfollowed := true, recurses := true, apart := false, narrowed := true }
def FindQuadsUptoSaid : Prop := findQuadsUptoRow.holds Try.pinned (OpenSpec.upto findQuadsSpec)

/-- 'sphragislaw11.FindLess', WHERE WHAT IT READS IS OF BULK AT MOST 1048576: true; the input reads as it did. -/
def findLessUptoRow : OpenClaim := { program := "ytoimgijhekahhaa", sum := "b0fd3ab82e0a2e38d1eb3bf53e403aa632a0f69b0ea082200b0cdd03278e336b", func := "sphragis/sphragislaw11.FindLess", spec := "findLess", unfollowed := true, recurses := true, apart := false, narrowed := true }
def FindLessUptoSaid : Prop := findLessUptoRow.holds Try.pinned (OpenSpec.upto findLessSpec)

/-- 'sphragislaw11.FindPieces', WHERE WHAT IT READS IS OF BULK AT MOST 1048576: true; the input reads as it did. -/
def findPiecesUptoRow : OpenClaim := { program := "ytoimgijhekahhaa", sum := "b0fd3ab82e0a2e38d1eb3bf53e403aa632a0f69b0ea082200b0cdd03278e336b", func := "sphragis/sphragislaw11.FindPieces", spec := "findPieces", unfollowed := true, recurses := true, apart := false, narrowed := true }
def FindPiecesUptoSaid : Prop := findPiecesUptoRow.holds Try.pinned (OpenSpec.upto findPiecesSpec)

/-- 'sphragislaw11.FindNone', WHERE WHAT IT READS IS OF BULK AT MOST 1048576: true; the input reads as it did. -/
def findNoneUptoRow : OpenClaim := { program := "ytoimgijhekahhaa", sum := "b0fd3ab82e0a2e38d1eb3bf53e403aa632a0f69b0ea082200b0cdd03278e336b", func := "sphragis/sphragislaw11.FindNone", spec := "findNone", unfollowed := true, recurses := true, apart := false, narrowed := true }
def FindNoneUptoSaid : Prop := findNoneUptoRow.holds Try.pinned (OpenSpec.upto findNoneSpec)

end Rows
end Go.Proofs.Ytoimgijhekahhaa

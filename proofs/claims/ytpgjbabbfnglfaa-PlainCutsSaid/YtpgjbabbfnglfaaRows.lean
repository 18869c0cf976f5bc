/-
  No cell of these rows narrows 'for every input' (looked for: loops, veiled, ifaces, maps, wideKeys, modest, calm, conditions, laid).
  DERIVED. THE GIVEN ROWS OF THIS SEAT. 8 by the template 'for every input the law returns true; each argument reads behind the call as it read before'; 0 by the template 'total and deterministic' (their statements: YtpgjbabbfnglfaaTotals.lean).
  GIVEN WITH THE SEED: the statements are not yours to turn. If you find one false, say at which input.
  Laid BY PROGRAM, IN A SANDBOX (cutbox-rows.mjs): the forced cells as the released guide's own fill.sh prints them over the translation d81ab8978b850a0c… (all of the seat's roots in one cut). By AI agents, Wed Nov 11 2026. No macro, syntax, notation, axiom, sorry.
-/
import Derived.Test.YtpgjbabbfnglfaaChecked
import GoSem.Claim
import GoSem.ClaimJoined
import GoSem.ClaimMapViews
import Derived.JoinedTies
import Derived.KernelRfl
namespace Go.Proofs.Ytpgjbabbfnglfaa
/- THE CELL 'sum', in the pinned program and in every row, IS THE sha256 OF THE DUMP (.gsa) THAT YtpgjbabbfnglfaaProg.lean LOADS. Nothing in Lean hashes anything: it is a label: what it is worth is what the hold of that sum in a sandbox is worth. -/
noncomputable def Try.pinned : Pinned := { name := "ytpgjbabbfnglfaa", sum := "d81ab8978b850a0c2514aac40a65f253c340e624ada335c0289f726ed07485c4", checked := Try.checked }
namespace Rows
def none {H : Type} : Left H := { results := [], args := [] }

/-- 'sphragislaw12.PlainApplies': WHATEVER THE INPUT: true; the input reads as it did. -/
def plainAppliesSpec : ChangeSpec := { name := "plainApplies", fn := fun _ => fun
  | [d1, d2] => { results := [.lit (.bool true)], args := [d1, d2] }
  | _ => none }
def plainAppliesRow : OpenClaim := { program := "ytpgjbabbfnglfaa", sum := "d81ab8978b850a0c2514aac40a65f253c340e624ada335c0289f726ed07485c4", func := "sphragis/sphragislaw12.PlainApplies", spec := "plainApplies", unfollowed := true, recurses := true, apart := false }
def PlainAppliesSaid : Prop := plainAppliesRow.holds Try.pinned (OpenSpec.ofChange plainAppliesSpec)

/-- ITS FALSE NEIGHBOUR: 'it returns false'. Refute it at one input. -/
def plainAppliesWrong : ChangeSpec := { name := "plainApplies", fn := fun _ => fun
  | [d1, d2] => { results := [.lit (.bool false)], args := [d1, d2] }
  | _ => none }
def PlainAppliesWrongFalsely : Prop := plainAppliesRow.holds Try.pinned (OpenSpec.ofChange plainAppliesWrong)

/-- 'sphragislaw12.PlainBatches': WHATEVER THE INPUT: true; the input reads as it did. -/
def plainBatchesSpec : ChangeSpec := { name := "plainBatches", fn := fun _ => fun
  | [d1, d2] => { results := [.lit (.bool true)], args := [d1, d2] }
  | _ => none }
def plainBatchesRow : OpenClaim := { program := "ytpgjbabbfnglfaa", sum := "d81ab8978b850a0c2514aac40a65f253c340e624ada335c0289f726ed07485c4", func := "sphragis/sphragislaw12.PlainBatches", spec := "plainBatches", unfollowed := true, recurses := true, apart := false }
def PlainBatchesSaid : Prop := plainBatchesRow.holds Try.pinned (OpenSpec.ofChange plainBatchesSpec)

/-- ITS FALSE NEIGHBOUR: 'it returns false'. Refute it at one input. -/
def plainBatchesWrong : ChangeSpec := { name := "plainBatches", fn := fun _ => fun
  | [d1, d2] => { results := [.lit (.bool false)], args := [d1, d2] }
  | _ => none }
def PlainBatchesWrongFalsely : Prop := plainBatchesRow.holds Try.pinned (OpenSpec.ofChange plainBatchesWrong)

/-- 'sphragislaw12.PlainCuts': WHATEVER THE INPUT: true; the input reads as it did. -/
def plainCutsSpec : ChangeSpec := { name := "plainCuts", fn := fun _ => fun
  | [d1, d2, d3] => { results := [.lit (.bool true)], args := [d1, d2, d3] }
  | _ => none }
def plainCutsRow : OpenClaim := { program := "ytpgjbabbfnglfaa", sum := "d81ab8978b850a0c2514aac40a65f253c340e624ada335c0289f726ed07485c4", func := "sphragis/sphragislaw12.PlainCuts", spec := "plainCuts", unfollowed := true, recurses := true, apart := false }
def PlainCutsSaid : Prop := plainCutsRow.holds Try.pinned (OpenSpec.ofChange plainCutsSpec)

/-- ITS FALSE NEIGHBOUR: 'it returns false'. Refute it at one input. -/
def plainCutsWrong : ChangeSpec := { name := "plainCuts", fn := fun _ => fun
  | [d1, d2, d3] => { results := [.lit (.bool false)], args := [d1, d2, d3] }
  | _ => none }
def PlainCutsWrongFalsely : Prop := plainCutsRow.holds Try.pinned (OpenSpec.ofChange plainCutsWrong)

/-- 'sphragislaw12.PlainFull': WHATEVER THE INPUT: true; the input reads as it did. -/
def plainFullSpec : ChangeSpec := { name := "plainFull", fn := fun _ => fun
  | [d1, d2] => { results := [.lit (.bool true)], args := [d1, d2] }
  | _ => none }
def plainFullRow : OpenClaim := { program := "ytpgjbabbfnglfaa", sum := "d81ab8978b850a0c2514aac40a65f253c340e624ada335c0289f726ed07485c4", func := "sphragis/sphragislaw12.PlainFull", spec := "plainFull", unfollowed := true, recurses := true, apart := false }
def PlainFullSaid : Prop := plainFullRow.holds Try.pinned (OpenSpec.ofChange plainFullSpec)

/-- ITS FALSE NEIGHBOUR: 'it returns false'. Refute it at one input. -/
def plainFullWrong : ChangeSpec := { name := "plainFull", fn := fun _ => fun
  | [d1, d2] => { results := [.lit (.bool false)], args := [d1, d2] }
  | _ => none }
def PlainFullWrongFalsely : Prop := plainFullRow.holds Try.pinned (OpenSpec.ofChange plainFullWrong)

/-- 'sphragislaw12.PlainSwaps': WHATEVER THE INPUT: true; the input reads as it did. -/
def plainSwapsSpec : ChangeSpec := { name := "plainSwaps", fn := fun _ => fun
  | [d1, d2, d3] => { results := [.lit (.bool true)], args := [d1, d2, d3] }
  | _ => none }
def plainSwapsRow : OpenClaim := { program := "ytpgjbabbfnglfaa", sum := "d81ab8978b850a0c2514aac40a65f253c340e624ada335c0289f726ed07485c4", func := "sphragis/sphragislaw12.PlainSwaps", spec := "plainSwaps", unfollowed := true, recurses := true, apart := false }
def PlainSwapsSaid : Prop := plainSwapsRow.holds Try.pinned (OpenSpec.ofChange plainSwapsSpec)

/-- ITS FALSE NEIGHBOUR: 'it returns false'. Refute it at one input. -/
def plainSwapsWrong : ChangeSpec := { name := "plainSwaps", fn := fun _ => fun
  | [d1, d2, d3] => { results := [.lit (.bool false)], args := [d1, d2, d3] }
  | _ => none }
def PlainSwapsWrongFalsely : Prop := plainSwapsRow.holds Try.pinned (OpenSpec.ofChange plainSwapsWrong)

/-- 'sphragislaw12.PlainGets': WHATEVER THE INPUT: true; the input reads as it did. -/
def plainGetsSpec : ChangeSpec := { name := "plainGets", fn := fun _ => fun
  | [d1, d2] => { results := [.lit (.bool true)], args := [d1, d2] }
  | _ => none }
def plainGetsRow : OpenClaim := { program := "ytpgjbabbfnglfaa", sum := "d81ab8978b850a0c2514aac40a65f253c340e624ada335c0289f726ed07485c4", func := "sphragis/sphragislaw12.PlainGets", spec := "plainGets", unfollowed := true, recurses := true, apart := false }
def PlainGetsSaid : Prop := plainGetsRow.holds Try.pinned (OpenSpec.ofChange plainGetsSpec)

/-- ITS FALSE NEIGHBOUR: 'it returns false'. Refute it at one input. -/
def plainGetsWrong : ChangeSpec := { name := "plainGets", fn := fun _ => fun
  | [d1, d2] => { results := [.lit (.bool false)], args := [d1, d2] }
  | _ => none }
def PlainGetsWrongFalsely : Prop := plainGetsRow.holds Try.pinned (OpenSpec.ofChange plainGetsWrong)

/-- 'sphragislaw12.PlainKeeps': WHATEVER THE INPUT: true; the input reads as it did. -/
def plainKeepsSpec : ChangeSpec := { name := "plainKeeps", fn := fun _ => fun
  | [d1, d2, d3] => { results := [.lit (.bool true)], args := [d1, d2, d3] }
  | _ => none }
def plainKeepsRow : OpenClaim := { program := "ytpgjbabbfnglfaa", sum := "d81ab8978b850a0c2514aac40a65f253c340e624ada335c0289f726ed07485c4", func := "sphragis/sphragislaw12.PlainKeeps", spec := "plainKeeps", unfollowed := true, recurses := true, apart := false }
def PlainKeepsSaid : Prop := plainKeepsRow.holds Try.pinned (OpenSpec.ofChange plainKeepsSpec)

/-- ITS FALSE NEIGHBOUR: 'it returns false'. Refute it at one input. -/
def plainKeepsWrong : ChangeSpec := { name := "plainKeeps", fn := fun _ => fun
  | [d1, d2, d3] => { results := [.lit (.bool false)], args := [d1, d2, d3] }
  | _ => none }
def PlainKeepsWrongFalsely : Prop := plainKeepsRow.holds Try.pinned (OpenSpec.ofChange plainKeepsWrong)

/-- 'sphragislaw12.PlainMoves': WHATEVER THE INPUT: true; the input reads as it did. -/
def plainMovesSpec : ChangeSpec := { name := "plainMoves", fn := fun _ => fun
  | [d1, d2, d3, d4] => { results := [.lit (.bool true)], args := [d1, d2, d3, d4] }
  | _ => none }
def plainMovesRow : OpenClaim := { program := "ytpgjbabbfnglfaa", sum := "d81ab8978b850a0c2514aac40a65f253c340e624ada335c0289f726ed07485c4", func := "sphragis/sphragislaw12.PlainMoves", spec := "plainMoves", unfollowed := true, recurses := true, apart := false }
def PlainMovesSaid : Prop := plainMovesRow.holds Try.pinned (OpenSpec.ofChange plainMovesSpec)

/-- ITS FALSE NEIGHBOUR: 'it returns false'. Refute it at one input. -/
def plainMovesWrong : ChangeSpec := { name := "plainMoves", fn := fun _ => fun
  | [d1, d2, d3, d4] => { results := [.lit (.bool false)], args := [d1, d2, d3, d4] }
  | _ => none }
def PlainMovesWrongFalsely : Prop := plainMovesRow.holds Try.pinned (OpenSpec.ofChange plainMovesWrong)

/- THE SECOND FORM. 'bulk': how many values and letters a reading holds, each counted each time it is reached (what is shared counts as often as it is met; a slice's spare places count too). A statement '..UptoSaid' is the law's where the arguments, and the package variables that the reading takes, are together of bulk at most 1048576: NARROWER than '..Said'. Prove '..Said' where nothing that the law and all that it calls make is longer than what came in: it says more and counts as full. Else prove '..UptoSaid'. A law counts once. -/
mutual
def uptoBulk {H : Type} : DataW H → Nat
  | .lit (.string bytes) => bytes.length + 1
  | .lit _ => 1
  | .nil => 1
  | .ptr d => uptoBulk d + 1
  | .slice elems spare => uptoBulkAll elems + uptoBulkAll spare + 1
  | .agg parts => uptoBulkAll parts + 1
  | .iface _ d => uptoBulk d + 1
  | .map entries => uptoBulkEntries entries + 1
  | .held _ => 1
def uptoBulkAll {H : Type} : List (DataW H) → Nat
  | [] => 0
  | d :: r => uptoBulk d + uptoBulkAll r
def uptoBulkEntries {H : Type} : List (Lit × DataW H) → Nat
  | [] => 0
  | x :: r => uptoBulkEntry x + uptoBulkEntries r
def uptoBulkEntry {H : Type} : Lit × DataW H → Nat
  | (.string bytes, d) => bytes.length + uptoBulk d + 1
  | (_, d) => uptoBulk d + 1
 end
def uptoSmall : (H : Type) → List (DataW H) → Bool := fun _ ds => decide (uptoBulkAll ds ≤ 1048576)
def OpenSpec.upto (s : _root_.Go.ChangeSpec) : _root_.Go.OpenSpec := { _root_.Go.OpenSpec.ofChange s with cond := some uptoSmall }

/-- 'sphragislaw12.PlainApplies', WHERE WHAT IT READS IS OF BULK AT MOST 1048576: true; the input reads as it did. -/
def plainAppliesUptoRow : OpenClaim := { program := "ytpgjbabbfnglfaa", sum := "d81ab8978b850a0c2514aac40a65f253c340e624ada335c0289f726ed07485c4", func := "sphragis/sphragislaw12.PlainApplies", spec := "plainApplies", unfollowed := true, recurses := true, apart := false, narrowed := true }
def PlainAppliesUptoSaid : Prop := plainAppliesUptoRow.holds Try.pinned (OpenSpec.upto plainAppliesSpec)

/-- 'sphragislaw12.PlainBatches', WHERE WHAT IT READS IS OF BULK AT MOST 1048576: true; the input reads as it did. -/
def plainBatchesUptoRow : OpenClaim := { program := "ytpgjbabbfnglfaa", sum := "d81ab8978b850a0c2514aac40a65f253c340e624ada335c0289f726ed07485c4", func := "sphragis/sphragislaw12.PlainBatches", spec := "plainBatches", unfollowed := true, recurses := true, apart := false, narrowed := true }
def PlainBatchesUptoSaid : Prop := plainBatchesUptoRow.holds Try.pinned (OpenSpec.upto plainBatchesSpec)

/-- 'sphragislaw12.PlainCuts', WHERE WHAT IT READS IS OF BULK AT MOST 1048576: true; the input reads as it did. -/
def plainCutsUptoRow : OpenClaim := { program := "ytpgjbabbfnglfaa", sum := "d81ab8978b850a0c2514aac40a65f253c340e624ada335c0289f726ed07485c4", func := "sphragis/sphragislaw12.PlainCuts", spec := "plainCuts", unfollowed := true, recurses := true, apart := false, narrowed := true }
def PlainCutsUptoSaid : Prop := plainCutsUptoRow.holds Try.pinned (OpenSpec.upto plainCutsSpec)

/-- 'sphragislaw12.PlainFull', WHERE WHAT IT READS IS OF BULK AT MOST 1048576: true; the input reads as it did. -/
def plainFullUptoRow : OpenClaim := { program := "ytpgjbabbfnglfaa", sum := "d81ab8978b850a0c2514aac40a65f253c340e624ada335c0289f726ed07485c4", func := "sphragis/sphragislaw12.PlainFull", spec := "plainFull", unfollowed := true, recurses := true, apart := false, narrowed := true }
def PlainFullUptoSaid : Prop := plainFullUptoRow.holds Try.pinned (OpenSpec.upto plainFullSpec)

/-- 'sphragislaw12.PlainSwaps', WHERE WHAT IT READS IS OF BULK AT MOST 1048576: true; the input reads as it did. -/
def plainSwapsUptoRow : OpenClaim := { program := "ytpgjbabbfnglfaa", sum := "d81ab8978b850a0c2514aac40a65f253c340e624ada335c0289f726ed07485c4", func := "sphragis/sphragislaw12.PlainSwaps", spec := "plainSwaps", unfollowed := true, recurses := true, apart := false, narrowed := true }
def PlainSwapsUptoSaid : Prop := plainSwapsUptoRow.holds Try.pinned (OpenSpec.upto plainSwapsSpec)

/-- 'sphragislaw12.PlainGets', WHERE WHAT IT READS IS OF BULK AT MOST 1048576: true; the input reads as it did. -/
def plainGetsUptoRow : OpenClaim := { program := "ytpgjbabbfnglfaa", sum := "d81ab8978b850a0c2514aac40a65f253c340e624ada335c0289f726ed07485c4", func := "sphragis/sphragislaw12.PlainGets", spec := "plainGets", unfollowed := true, recurses := true, apart := false, narrowed := true }
def PlainGetsUptoSaid : Prop := plainGetsUptoRow.holds Try.pinned (OpenSpec.upto plainGetsSpec)

/-- 'sphragislaw12.PlainKeeps', WHERE WHAT IT READS IS OF BULK AT MOST 1048576: true; the input reads as it did. -/
def plainKeepsUptoRow : OpenClaim := { program := "ytpgjbabbfnglfaa", sum := "d81ab8978b850a0c2514aac40a65f253c340e624ada335c0289f726ed07485c4", func := "sphragis/sphragislaw12.PlainKeeps", spec := "plainKeeps", unfollowed := true, recurses := true, apart := false, narrowed := true }
def PlainKeepsUptoSaid : Prop := plainKeepsUptoRow.holds Try.pinned (OpenSpec.upto plainKeepsSpec)

/-- 'sphragislaw12.PlainMoves', WHERE WHAT IT READS IS OF BULK AT MOST 1048576: true; the input reads as it did. -/
def plainMovesUptoRow : OpenClaim := { program := "ytpgjbabbfnglfaa", sum := "d81ab8978b850a0c2514aac40a65f253c340e624ada335c0289f726ed07485c4", func := "sphragis/sphragislaw12.PlainMoves", spec := "plainMoves", unfollowed := true, recurses := true, apart := false, narrowed := true }
def PlainMovesUptoSaid : Prop := plainMovesUptoRow.holds Try.pinned (OpenSpec.upto plainMovesSpec)

end Rows
end Go.Proofs.Ytpgjbabbfnglfaa

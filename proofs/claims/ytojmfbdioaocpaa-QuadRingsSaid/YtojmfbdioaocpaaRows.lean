/-
  No cell of these rows narrows 'for every input' (looked for: loops, veiled, ifaces, maps, wideKeys, modest, calm, conditions, laid).
  DERIVED. THE GIVEN ROWS OF THIS SEAT. 8 by the template 'for every input the law returns true; each argument reads behind the call as it read before'; 0 by the template 'total and deterministic' (their statements: YtojmfbdioaocpaaTotals.lean).
  GIVEN WITH THE SEED: the statements are not yours to turn. If you find one false, say at which input.
  Laid BY PROGRAM, IN A SANDBOX (cutbox-rows.mjs): the forced cells as the released guide's own fill.sh prints them over the translation a00f8dd4090fafcd… (all of the seat's roots in one cut). By AI agents, Wed Nov 11 2026. No macro, syntax, notation, axiom, sorry.
-/
import Derived.Test.YtojmfbdioaocpaaChecked
import GoSem.Claim
import GoSem.ClaimJoined
import GoSem.ClaimMapViews
import Derived.JoinedTies
import Derived.KernelRfl
namespace Go.Proofs.Ytojmfbdioaocpaa
/- THE CELL 'sum', in the pinned program and in every row, IS THE sha256 OF THE DUMP (.gsa) THAT YtojmfbdioaocpaaProg.lean LOADS. Nothing in Lean hashes anything: it is a label: what it is worth is what the hold of that sum in a sandbox is worth. -/
noncomputable def Try.pinned : Pinned := { name := "ytojmfbdioaocpaa", sum := "a00f8dd4090fafcd2f33092d4a828b7735a9e70a5a81182f9db35f92d640cfd7", checked := Try.checked }
namespace Rows
def none {H : Type} : Left H := { results := [], args := [] }

/-- 'sphragislaw09.QuadBuilds': WHATEVER THE INPUT: true; the input reads as it did. -/
def quadBuildsSpec : ChangeSpec := { name := "quadBuilds", fn := fun _ => fun
  | [d1, d2] => { results := [.lit (.bool true)], args := [d1, d2] }
  | _ => none }
def quadBuildsRow : OpenClaim := { program := "ytojmfbdioaocpaa", sum := "a00f8dd4090fafcd2f33092d4a828b7735a9e70a5a81182f9db35f92d640cfd7", func := "sphragis/sphragislaw09.QuadBuilds", spec := "quadBuilds", unfollowed := true, recurses := true, apart := false }
def QuadBuildsSaid : Prop := quadBuildsRow.holds Try.pinned (OpenSpec.ofChange quadBuildsSpec)

/-- ITS FALSE NEIGHBOUR: 'it returns false'. Refute it at one input. -/
def quadBuildsWrong : ChangeSpec := { name := "quadBuilds", fn := fun _ => fun
  | [d1, d2] => { results := [.lit (.bool false)], args := [d1, d2] }
  | _ => none }
def QuadBuildsWrongFalsely : Prop := quadBuildsRow.holds Try.pinned (OpenSpec.ofChange quadBuildsWrong)

/-- 'sphragislaw09.QuadWhole': WHATEVER THE INPUT: true; the input reads as it did. -/
def quadWholeSpec : ChangeSpec := { name := "quadWhole", fn := fun _ => fun
  | [d] => { results := [.lit (.bool true)], args := [d] }
  | _ => none }
def quadWholeRow : OpenClaim := { program := "ytojmfbdioaocpaa", sum := "a00f8dd4090fafcd2f33092d4a828b7735a9e70a5a81182f9db35f92d640cfd7", func := "sphragis/sphragislaw09.QuadWhole", spec := "quadWhole", unfollowed := true, recurses := true, apart := false }
def QuadWholeSaid : Prop := quadWholeRow.holds Try.pinned (OpenSpec.ofChange quadWholeSpec)

/-- ITS FALSE NEIGHBOUR: 'it returns false'. Refute it at one input. -/
def quadWholeWrong : ChangeSpec := { name := "quadWhole", fn := fun _ => fun
  | [d] => { results := [.lit (.bool false)], args := [d] }
  | _ => none }
def QuadWholeWrongFalsely : Prop := quadWholeRow.holds Try.pinned (OpenSpec.ofChange quadWholeWrong)

/-- 'sphragislaw09.QuadBack': WHATEVER THE INPUT: true; the input reads as it did. -/
def quadBackSpec : ChangeSpec := { name := "quadBack", fn := fun _ => fun
  | [d] => { results := [.lit (.bool true)], args := [d] }
  | _ => none }
def quadBackRow : OpenClaim := { program := "ytojmfbdioaocpaa", sum := "a00f8dd4090fafcd2f33092d4a828b7735a9e70a5a81182f9db35f92d640cfd7", func := "sphragis/sphragislaw09.QuadBack", spec := "quadBack", unfollowed := true, recurses := true, apart := false }
def QuadBackSaid : Prop := quadBackRow.holds Try.pinned (OpenSpec.ofChange quadBackSpec)

/-- ITS FALSE NEIGHBOUR: 'it returns false'. Refute it at one input. -/
def quadBackWrong : ChangeSpec := { name := "quadBack", fn := fun _ => fun
  | [d] => { results := [.lit (.bool false)], args := [d] }
  | _ => none }
def QuadBackWrongFalsely : Prop := quadBackRow.holds Try.pinned (OpenSpec.ofChange quadBackWrong)

/-- 'sphragislaw09.QuadNears': WHATEVER THE INPUT: true; the input reads as it did. -/
def quadNearsSpec : ChangeSpec := { name := "quadNears", fn := fun _ => fun
  | [d1, d2, d3, d4] => { results := [.lit (.bool true)], args := [d1, d2, d3, d4] }
  | _ => none }
def quadNearsRow : OpenClaim := { program := "ytojmfbdioaocpaa", sum := "a00f8dd4090fafcd2f33092d4a828b7735a9e70a5a81182f9db35f92d640cfd7", func := "sphragis/sphragislaw09.QuadNears", spec := "quadNears", unfollowed := true, recurses := true, apart := false }
def QuadNearsSaid : Prop := quadNearsRow.holds Try.pinned (OpenSpec.ofChange quadNearsSpec)

/-- ITS FALSE NEIGHBOUR: 'it returns false'. Refute it at one input. -/
def quadNearsWrong : ChangeSpec := { name := "quadNears", fn := fun _ => fun
  | [d1, d2, d3, d4] => { results := [.lit (.bool false)], args := [d1, d2, d3, d4] }
  | _ => none }
def QuadNearsWrongFalsely : Prop := quadNearsRow.holds Try.pinned (OpenSpec.ofChange quadNearsWrong)

/-- 'sphragislaw09.QuadRounds': WHATEVER THE INPUT: true; the input reads as it did. -/
def quadRoundsSpec : ChangeSpec := { name := "quadRounds", fn := fun _ => fun
  | [d1, d2, d3, d4] => { results := [.lit (.bool true)], args := [d1, d2, d3, d4] }
  | _ => none }
def quadRoundsRow : OpenClaim := { program := "ytojmfbdioaocpaa", sum := "a00f8dd4090fafcd2f33092d4a828b7735a9e70a5a81182f9db35f92d640cfd7", func := "sphragis/sphragislaw09.QuadRounds", spec := "quadRounds", unfollowed := true, recurses := true, apart := false }
def QuadRoundsSaid : Prop := quadRoundsRow.holds Try.pinned (OpenSpec.ofChange quadRoundsSpec)

/-- ITS FALSE NEIGHBOUR: 'it returns false'. Refute it at one input. -/
def quadRoundsWrong : ChangeSpec := { name := "quadRounds", fn := fun _ => fun
  | [d1, d2, d3, d4] => { results := [.lit (.bool false)], args := [d1, d2, d3, d4] }
  | _ => none }
def QuadRoundsWrongFalsely : Prop := quadRoundsRow.holds Try.pinned (OpenSpec.ofChange quadRoundsWrong)

/-- 'sphragislaw09.QuadWindows': WHATEVER THE INPUT: true; the input reads as it did. -/
def quadWindowsSpec : ChangeSpec := { name := "quadWindows", fn := fun _ => fun
  | [d1, d2] => { results := [.lit (.bool true)], args := [d1, d2] }
  | _ => none }
def quadWindowsRow : OpenClaim := { program := "ytojmfbdioaocpaa", sum := "a00f8dd4090fafcd2f33092d4a828b7735a9e70a5a81182f9db35f92d640cfd7", func := "sphragis/sphragislaw09.QuadWindows", spec := "quadWindows", unfollowed := true, recurses := true, apart := false }
def QuadWindowsSaid : Prop := quadWindowsRow.holds Try.pinned (OpenSpec.ofChange quadWindowsSpec)

/-- ITS FALSE NEIGHBOUR: 'it returns false'. Refute it at one input. -/
def quadWindowsWrong : ChangeSpec := { name := "quadWindows", fn := fun _ => fun
  | [d1, d2] => { results := [.lit (.bool false)], args := [d1, d2] }
  | _ => none }
def QuadWindowsWrongFalsely : Prop := quadWindowsRow.holds Try.pinned (OpenSpec.ofChange quadWindowsWrong)

/-- 'sphragislaw09.QuadParts': WHATEVER THE INPUT: true; the input reads as it did. -/
def quadPartsSpec : ChangeSpec := { name := "quadParts", fn := fun _ => fun
  | [d1, d2, d3] => { results := [.lit (.bool true)], args := [d1, d2, d3] }
  | _ => none }
def quadPartsRow : OpenClaim := { program := "ytojmfbdioaocpaa", sum := "a00f8dd4090fafcd2f33092d4a828b7735a9e70a5a81182f9db35f92d640cfd7", func := "sphragis/sphragislaw09.QuadParts", spec := "quadParts", unfollowed := true, recurses := true, apart := false }
def QuadPartsSaid : Prop := quadPartsRow.holds Try.pinned (OpenSpec.ofChange quadPartsSpec)

/-- ITS FALSE NEIGHBOUR: 'it returns false'. Refute it at one input. -/
def quadPartsWrong : ChangeSpec := { name := "quadParts", fn := fun _ => fun
  | [d1, d2, d3] => { results := [.lit (.bool false)], args := [d1, d2, d3] }
  | _ => none }
def QuadPartsWrongFalsely : Prop := quadPartsRow.holds Try.pinned (OpenSpec.ofChange quadPartsWrong)

/-- 'sphragislaw09.QuadRings': WHATEVER THE INPUT: true; the input reads as it did. -/
def quadRingsSpec : ChangeSpec := { name := "quadRings", fn := fun _ => fun
  | [d1, d2, d3, d4] => { results := [.lit (.bool true)], args := [d1, d2, d3, d4] }
  | _ => none }
def quadRingsRow : OpenClaim := { program := "ytojmfbdioaocpaa", sum := "a00f8dd4090fafcd2f33092d4a828b7735a9e70a5a81182f9db35f92d640cfd7", func := "sphragis/sphragislaw09.QuadRings", spec := "quadRings", unfollowed := true, recurses := true, apart := false }
def QuadRingsSaid : Prop := quadRingsRow.holds Try.pinned (OpenSpec.ofChange quadRingsSpec)

/-- ITS FALSE NEIGHBOUR: 'it returns false'. Refute it at one input. -/
def quadRingsWrong : ChangeSpec := { name := "quadRings", fn := fun _ => fun
  | [d1, d2, d3, d4] => { results := [.lit (.bool false)], args := [d1, d2, d3, d4] }
  | _ => none }
def QuadRingsWrongFalsely : Prop := quadRingsRow.holds Try.pinned (OpenSpec.ofChange quadRingsWrong)

/- THE SECOND FORM. 'bulk': how many values and letters a reading holds, each counted each time it is reached (what is shared counts as often as it is met; a slice's spare places count too). A statement '..UptoSaid' is the law's where the arguments, and the package variables that the reading takes, are together of bulk at most 1048576: NARROWER than '..Said'. Prove '..Said' where nothing that the law and all that it calls make is longer than what came in: it says more and counts as full. Else prove '..UptoSaid'. A law counts once. -/
mutual
def uptoBulk {H : Type} : DataW H → Nat
  | .lit (.string bytes) => bytes.length + 1
  | .lit _ => 1
  | .nil => 1
  | .ptr d => uptoBulk d + 1
  | .slice elems spare => uptoBulkAll elems + uptoBulkAll spare + 1
  | .agg parts => uptoBulkAll parts + 1
  | .iface _ d => uptoBulk d + 1
  | .map entries => uptoBulkEntries entries + 1
  | .held _ => 1
def uptoBulkAll {H : Type} : List (DataW H) → Nat
  | [] => 0
  | d :: r => uptoBulk d + uptoBulkAll r
def uptoBulkEntries {H : Type} : List (Lit × DataW H) → Nat
  | [] => 0
  | x :: r => uptoBulkEntry x + uptoBulkEntries r
def uptoBulkEntry {H : Type} : Lit × DataW H → Nat
  | (.string bytes, d) => bytes.length + uptoBulk d + 1
  | (_, d) => uptoBulk d + 1
 end
def uptoSmall : (H : Type) → List (DataW H) → Bool := fun _ ds => decide (uptoBulkAll ds ≤ 1048576)
def OpenSpec.upto (s : _root_.Go.ChangeSpec) : _root_.Go.OpenSpec := { _root_.Go.OpenSpec.ofChange s with cond := some uptoSmall }

/-- 'sphragislaw09.QuadBuilds', WHERE WHAT IT READS IS OF BULK AT MOST 1048576: true; the input reads as it did. -/
def quadBuildsUptoRow : OpenClaim := { program := "ytojmfbdioaocpaa", sum := "a00f8dd4090fafcd2f33092d4a828b7735a9e70a5a81182f9db35f92d640cfd7", func := "sphragis/sphragislaw09.QuadBuilds", spec := "quadBuilds", unfollowed := true, recurses := true, apart := false, narrowed := true }
def QuadBuildsUptoSaid : Prop := quadBuildsUptoRow.holds Try.pinned (OpenSpec.upto quadBuildsSpec)

/-- 'sphragislaw09.QuadWhole', WHERE WHAT IT READS IS OF BULK AT MOST 1048576: true; the input reads as it did. -/
def quadWholeUptoRow : OpenClaim := { program := "ytojmfbdioaocpaa", sum := "a00f8dd4090fafcd2f33092d4a828b7735a9e70a5a81182f9db35f92d640cfd7", func := "sphragis/sphragislaw09.QuadWhole", spec := "quadWhole", unfollowed := true, recurses := true, apart := false, narrowed := true }
def QuadWholeUptoSaid : Prop := quadWholeUptoRow.holds Try.pinned (OpenSpec.upto quadWholeSpec)

/-- 'sphragislaw09.QuadBack', WHERE WHAT IT READS IS OF BULK AT MOST 1048576: true; the input reads as it did. -/
def quadBackUptoRow : OpenClaim := { program := "ytojmfbdioaocpaa", sum := "a00f8dd4090fafcd2f33092d4a828b7735a9e70a5a81182f9db35f92d640cfd7", func := "sphragis/sphragislaw09.QuadBack", spec := "quadBack", unfollowed := true, recurses := true, apart := false, narrowed := true }
def QuadBackUptoSaid : Prop := quadBackUptoRow.holds Try.pinned (OpenSpec.upto quadBackSpec)

/-- 'sphragislaw09.QuadNears', WHERE WHAT IT READS IS OF BULK AT MOST 1048576: true; the input reads as it did. -/
def quadNearsUptoRow : OpenClaim := { program := "ytojmfbdioaocpaa", sum := "a00f8dd4090fafcd2f33092d4a828b7735a9e70a5a81182f9db35f92d640cfd7", func := "sphragis/sphragislaw09.QuadNears", spec := "quadNears", unfollowed := true, recurses := true, apart := false, narrowed := true }
def QuadNearsUptoSaid : Prop := quadNearsUptoRow.holds Try.pinned (OpenSpec.upto quadNearsSpec)

/-- 'sphragislaw09.QuadRounds', WHERE WHAT IT READS IS OF BULK AT MOST 1048576: true; the input reads as it did. -/
def quadRoundsUptoRow : OpenClaim := { program := "ytojmfbdioaocpaa", sum := "a00f8dd4090fafcd2f33092d4a828b7735a9e70a5a81182f9db35f92d640cfd7", func := "sphragis/sphragislaw09.QuadRounds", spec := "quadRounds", unfollowed := true, recurses := true, apart := false, narrowed := true }
def QuadRoundsUptoSaid : Prop := quadRoundsUptoRow.holds Try.pinned (OpenSpec.upto quadRoundsSpec)

/-- 'sphragislaw09.QuadWindows', WHERE WHAT IT READS IS OF BULK AT MOST 1048576: true; the input reads as it did. -/
def quadWindowsUptoRow : OpenClaim := { program := "ytojmfbdioaocpaa", sum := "a00f8dd4090fafcd2f33092d4a828b7735a9e70a5a81182f9db35f92d640cfd7", func := "sphragis/sphragislaw09.QuadWindows", spec := "quadWindows", unfollowed := true, recurses := true, apart := false, narrowed := true }
def QuadWindowsUptoSaid : Prop := quadWindowsUptoRow.holds Try.pinned (OpenSpec.upto quadWindowsSpec)

/-- 'sphragislaw09.QuadParts', WHERE WHAT IT READS IS OF BULK AT MOST 1048576: true; the input reads as it did. -/
def quadPartsUptoRow : OpenClaim := { program := "ytojmfbdioaocpaa", sum := "a00f8dd4090fafcd2f33092d4a828b7735a9e70a5a81182f9db35f92d640cfd7", func := "sphragis/sphragislaw09.QuadParts", spec := "quadParts", unfollowed := true, recurses := true, apart := false, narrowed := true }
def QuadPartsUptoSaid : Prop := quadPartsUptoRow.holds Try.pinned (OpenSpec.upto quadPartsSpec)

/-- 'sphragislaw09.QuadRings', WHERE WHAT IT READS IS OF BULK AT MOST 1048576: true; the input reads as it did. -/
def quadRingsUptoRow : OpenClaim := { program := "ytojmfbdioaocpaa", sum := "a00f8dd4090fafcd2f33092d4a828b7735a9e70a5a81182f9db35f92d640cfd7", func := "sphragis/sphragislaw09.QuadRings", spec := "quadRings", unfollowed := true, recurses := true, apart := false, narrowed := true }
def QuadRingsUptoSaid : Prop := quadRingsUptoRow.holds Try.pinned (OpenSpec.upto quadRingsSpec)

end Rows
end Go.Proofs.Ytojmfbdioaocpaa

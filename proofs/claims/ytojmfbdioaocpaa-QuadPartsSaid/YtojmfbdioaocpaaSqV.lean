/- What Within says, of the program. Plain. -/
import Derived.Test.YtojmfbdioaocpaaSqA
import Derived.Test.YtojmfbdioaocpaaPx21
namespace Go.Proofs.Ytojmfbdioaocpaa.P
set_option linter.unusedVariables false
set_option linter.unusedSimpArgs false
open Go.RowKit Go.Proofs.YtojmfbdioaocpaaOwn Go.Proofs.YtojmfbdioaocpaaW.PrintWords Go.Proofs.YtojmfbdioaocpaaW.PrintLast Go.Proofs.YtojmfbdioaocpaaW.PrintMore
def withinB (x y l a b c d : Int) : Bool := rightB x y l && boxB a b c d && decide (a ≤ x) && decide (b ≤ y) && decide (x + sz l - 1 ≤ c) && decide (y + sz l - 1 ≤ d)
theorem withinB_iff {x y l a b c d : Int} : withinB x y l a b c d = true ↔ rightB x y l = true ∧ boxB a b c d = true ∧ a ≤ x ∧ b ≤ y ∧ x + sz l - 1 ≤ c ∧ y + sz l - 1 ≤ d := by simp [withinB, and_assoc]

theorem cell_Within.eq (x y l a b c d : Int) (hx : 0 ≤ x) (hx1 : x < 4294967296) (hy : 0 ≤ y) (hy1 : y < 4294967296) : cell_Within.f x y l a b c d = some (withinB x y l a b c d) := by
  unfold cell_Within.f withinB
  rw [cell_all.eq 0 0 0 (by omega) (by omega) (by decide +kernel), cell_Right.eq x y l hx hx1 hy hy1]
  simp only [Option.bind_some]
  cases hr : rightB x y l with
  | false => rw [if_neg (by simp), if_neg (by simp)]; rfl
  | true =>
    rw [if_pos rfl, cell_all.eq x y l hx hy hr]
    simp only [Option.bind_some, if_true]
    rw [cell_In.eq, cell_In.eq]
    simp only [Option.bind_some]
    have s1 := sz_pos l
    cases h1 : inB a b c d x y with
    | false =>
      rw [if_neg (by simp)]
      congr 1; symm; rw [Bool.eq_false_iff]; intro h
      have h' : boxB a b c d = true ∧ a ≤ x ∧ b ≤ y ∧ x + sz l - 1 ≤ c ∧ y + sz l - 1 ≤ d := by simpa [and_assoc] using h
      have := inB_iff.2 ⟨h'.1, h'.2.1, show x ≤ c by omega, h'.2.2.1, show y ≤ d by omega⟩
      rw [h1] at this; simp at this
    | true =>
      rw [if_pos rfl]
      congr 1
      rw [Bool.eq_iff_iff, inB_iff]
      have h2 := inB_iff.1 h1
      simp [and_assoc, h2.1]
      omega
end Go.Proofs.Ytojmfbdioaocpaa.P

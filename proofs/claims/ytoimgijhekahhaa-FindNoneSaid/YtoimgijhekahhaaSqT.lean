/- What Touches says, of the program. Plain. -/
import Derived.Test.YtoimgijhekahhaaSqA
import Derived.Test.YtoimgijhekahhaaPx301
namespace Go.Proofs.Ytoimgijhekahhaa.P
set_option linter.unusedVariables false
set_option linter.unusedSimpArgs false
open Go.RowKit Go.Proofs.YtoimgijhekahhaaOwn Go.Proofs.YtoimgijhekahhaaW.PrintWords Go.Proofs.YtoimgijhekahhaaW.PrintLast Go.Proofs.YtoimgijhekahhaaW.PrintMore
def touchB (x y l a b c d : Int) : Bool := rightB x y l && boxB a b c d && decide (x ≤ c) && decide (a ≤ x + sz l - 1) && decide (y ≤ d) && decide (b ≤ y + sz l - 1)
theorem touchB_iff {x y l a b c d : Int} : touchB x y l a b c d = true ↔ rightB x y l = true ∧ boxB a b c d = true ∧ x ≤ c ∧ a ≤ x + sz l - 1 ∧ y ≤ d ∧ b ≤ y + sz l - 1 := by simp [touchB, and_assoc]
theorem four_chain (p q r s : Prop) [Decidable p] [Decidable q] [Decidable r] [Decidable s] : (if p then (if q then (if r then some (decide s) else some false) else some false) else some false) = some (decide p && decide q && decide r && decide s) := by
  by_cases hp : p <;> by_cases hq : q <;> by_cases hr : r <;> simp [hp, hq, hr]

theorem cell_Touches.eq (x y l a b c d : Int) (hx : 0 ≤ x) (hx1 : x < 4294967296) (hy : 0 ≤ y) (hy1 : y < 4294967296) : cell_Touches.f x y l a b c d = some (touchB x y l a b c d) := by
  unfold cell_Touches.f touchB
  rw [cell_Right.eq x y l hx hx1 hy hy1, cell_RightBox.eq]
  simp only [Option.bind_some]
  cases hr : rightB x y l with
  | false => rw [if_neg (by simp)]; rfl
  | true =>
    rw [if_pos rfl]
    cases hb : boxB a b c d with
    | false => rw [if_neg (by simp)]; rfl
    | true =>
      rw [if_pos rfl, cell_all.eq x y l hx hy hr]
      simp only [Option.bind_some]
      rw [four_chain]
      rfl
end Go.Proofs.Ytoimgijhekahhaa.P

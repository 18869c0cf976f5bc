/- The pure statement of FindAlls. -/
import Derived.Test.YtoimgijhekahhaaGreatWalkFindAlls
namespace Go.Proofs.YtoimgijhekahhaaGreat.P
open Go.RowKit Go.Proofs.YtoimgijhekahhaaGreatOwn Go.Proofs.YtoimgijhekahhaaGreatW.PrintWords Go.Proofs.YtoimgijhekahhaaGreatW.PrintLast Go.Proofs.YtoimgijhekahhaaGreatW.PrintMore
set_option linter.unusedVariables false
theorem pure_FindAlls (l0 : List Row) (q : Q11) (m : Int) (wf : ∀ s ∈ l0, wfRow s) (len : l0.length < 140737488355328) (wq : wfQ q) (hm : -9223372036854775808 ≤ m ∧ m ≤ 9223372036854775807) : true = true ∧ 4096 ≤ 4096 ∧ (∀ s ∈ l0.take 60, wfRow s) ∧ wfQ q ∧ -9223372036854775808 ≤ m := ⟨rfl, Nat.le_refl _, few_wf wf, wq, hm.1⟩
end Go.Proofs.YtoimgijhekahhaaGreat.P

/- The pure statement of FindAsks. -/
import Derived.Test.YtoimgijhekahhaaWalkFindAsks
namespace Go.Proofs.Ytoimgijhekahhaa.P
open Go.RowKit Go.Proofs.YtoimgijhekahhaaOwn Go.Proofs.YtoimgijhekahhaaW.PrintWords Go.Proofs.YtoimgijhekahhaaW.PrintLast Go.Proofs.YtoimgijhekahhaaW.PrintMore
set_option linter.unusedVariables false
theorem pure_FindAsks (l0 : List Row) (q : Q11) (wf : ∀ s ∈ l0, wfRow s) (len : l0.length < 140737488355328) (wq : wfQ q) : true = true ∧ 4096 ≤ 4096 ∧ (∀ s ∈ l0.take 60, wfRow s) ∧ wfQ q := ⟨rfl, Nat.le_refl _, few_wf wf, wq⟩
end Go.Proofs.Ytoimgijhekahhaa.P

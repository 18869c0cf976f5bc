/- The pure statement of FindChecks. -/
import Derived.Test.YtoimgijhekahhaaWalkFindChecks
import Derived.Test.YtoimgijhekahhaaReP
namespace Go.Proofs.Ytoimgijhekahhaa.P
open Go.RowKit Go.Proofs.YtoimgijhekahhaaOwn Go.Proofs.YtoimgijhekahhaaW.PrintWords Go.Proofs.YtoimgijhekahhaaW.PrintLast Go.Proofs.YtoimgijhekahhaaW.PrintMore
set_option linter.unusedVariables false
set_option linter.unusedSimpArgs false
theorem pure_FindChecks (q : Q11) (wq : wfQ q) : sphragislaw11_FindChecks.f 512 q = some true := by
  unfold sphragislaw11_FindChecks.f
  rw [ref_check_eq q 509, Option.bind_some, if_pos rfl]
end Go.Proofs.Ytoimgijhekahhaa.P

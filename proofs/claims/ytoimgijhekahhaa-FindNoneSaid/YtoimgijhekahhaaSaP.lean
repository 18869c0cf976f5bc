/- Layer 9, plain: two lists of rows that are the same. -/
import Derived.Test.YtoimgijhekahhaaSqW
import Derived.Test.YtoimgijhekahhaaPx903
set_option linter.unusedVariables false
set_option linter.unusedSimpArgs false
namespace Go.Proofs.Ytoimgijhekahhaa.P
open Go.RowKit Go.Proofs.YtoimgijhekahhaaOwn Go.Proofs.YtoimgijhekahhaaW.PrintWords Go.Proofs.YtoimgijhekahhaaW.PrintLast Go.Proofs.YtoimgijhekahhaaW.PrintMore
theorem same_l0 {l : List Row} (hl : l.length ≤ 1000) : ∀ (m j k : Nat), j + m = l.length → m < k → sphragisref09_Same.l0 k l l (j : Int) = some true
  | m, j, 0, _, h => by omega
  | 0, j, k + 1, hj, _ => by rw [sphragisref09_Same.l0, if_neg (by omega)]
  | m + 1, j, k + 1, hj, hk => by
    rw [sphragisref09_Same.l0, if_pos (by omega), if_pos (by omega), if_pos (by omega), if_neg (by simp), wrap64_id (by omega) (by omega)]
    exact same_l0 hl m (j + 1) k (by omega) (by omega)
theorem same_eq {l : List Row} (hl : l.length ≤ 1000) {k : Nat} (hk : l.length < k) : sphragisref09_Same.f k l l = some true := by
  unfold sphragisref09_Same.f
  rw [if_pos rfl]
  exact same_l0 hl l.length 0 k (by omega) hk
end Go.Proofs.Ytoimgijhekahhaa.P

/- The pure statement of CellLeast. -/
import Derived.Test.YtnpnmbfbdnbeoaaSpL
import Derived.Test.YtnpnmbfbdnbeoaaSpS
import Derived.Test.YtnpnmbfbdnbeoaaPx9
namespace Go.Proofs.Ytnpnmbfbdnbeoaa.P
set_option linter.unusedVariables false
open Go.RowKit Go.Proofs.YtnpnmbfbdnbeoaaOwn Go.Proofs.YtnpnmbfbdnbeoaaW.PrintWords Go.Proofs.YtnpnmbfbdnbeoaaW.PrintLast Go.Proofs.YtnpnmbfbdnbeoaaW.PrintMore

theorem pure_CellLeast (x y u v : Int) (hx : 0 ≤ x ∧ x ≤ 4294967295) (hy : 0 ≤ y ∧ y ≤ 4294967295) (hu : 0 ≤ u ∧ u ≤ 4294967295) (hv : 0 ≤ v ∧ v ≤ 4294967295) :
    sphragislaw08_CellLeast.f 64 x y u v = some true := by
  unfold sphragislaw08_CellLeast.f
  rw [shown_true, cell_Least.eq (by omega) (by omega) (by omega) (by omega) (by omega) (by omega) (by omega) (by omega), ref_Least.eq 31 (by omega) (by omega) (by omega) (by omega) (by omega) (by omega) (by omega) (by omega)]
  simp

end Go.Proofs.Ytnpnmbfbdnbeoaa.P

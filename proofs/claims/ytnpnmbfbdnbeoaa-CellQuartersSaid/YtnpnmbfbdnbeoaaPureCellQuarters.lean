/- The pure statement of CellQuarters. -/
import Derived.Test.YtnpnmbfbdnbeoaaSpQ
import Derived.Test.YtnpnmbfbdnbeoaaSpS
import Derived.Test.YtnpnmbfbdnbeoaaPx14
namespace Go.Proofs.Ytnpnmbfbdnbeoaa.P
set_option linter.unusedVariables false
open Go.RowKit Go.Proofs.YtnpnmbfbdnbeoaaOwn Go.Proofs.YtnpnmbfbdnbeoaaW.PrintWords Go.Proofs.YtnpnmbfbdnbeoaaW.PrintLast Go.Proofs.YtnpnmbfbdnbeoaaW.PrintMore

theorem pure_CellQuarters (x y l n u v : Int) (hx : 0 ≤ x ∧ x ≤ 4294967295) (hy : 0 ≤ y ∧ y ≤ 4294967295) (hl : -9223372036854775808 ≤ l ∧ l ≤ 9223372036854775807) (hn : -9223372036854775808 ≤ n ∧ n ≤ 9223372036854775807) (hu : 0 ≤ u ∧ u ≤ 4294967295) (hv : 0 ≤ v ∧ v ≤ 4294967295) :
    sphragislaw08_CellQuarters.f 64 x y l n u v = some true := by
  unfold sphragislaw08_CellQuarters.f
  rw [shown_true, cell_Quarter.eq x y l n (by omega) (by omega) (by omega) (by omega), ref_Quarter.eq 63 x y l n (by omega) (by omega) (by omega) (by omega), cell_Where.eq x y l u v (by omega) (by omega) (by omega) (by omega), ref_Where.eq 59 x y l u v (by omega) (by omega) (by omega) (by omega) (by omega) (by omega) (by omega) (by omega)]
  simp

end Go.Proofs.Ytnpnmbfbdnbeoaa.P

/- The pure statement of CellBoxes. -/
import Derived.Test.YtnpnmbfbdnbeoaaSpF
import Derived.Test.YtnpnmbfbdnbeoaaSpT
import Derived.Test.YtnpnmbfbdnbeoaaSpS
import Derived.Test.YtnpnmbfbdnbeoaaPx21
namespace Go.Proofs.Ytnpnmbfbdnbeoaa.P
set_option linter.unusedVariables false
open Go.RowKit Go.Proofs.YtnpnmbfbdnbeoaaOwn Go.Proofs.YtnpnmbfbdnbeoaaW.PrintWords Go.Proofs.YtnpnmbfbdnbeoaaW.PrintLast Go.Proofs.YtnpnmbfbdnbeoaaW.PrintMore

theorem pure_CellBoxes (x y l a b c d u v : Int) (hx : 0 ≤ x ∧ x ≤ 4294967295) (hy : 0 ≤ y ∧ y ≤ 4294967295) (hl : -9223372036854775808 ≤ l ∧ l ≤ 9223372036854775807) (ha : 0 ≤ a ∧ a ≤ 4294967295) (hb : 0 ≤ b ∧ b ≤ 4294967295) (hc : 0 ≤ c ∧ c ≤ 4294967295) (hd : 0 ≤ d ∧ d ≤ 4294967295) (hu : 0 ≤ u ∧ u ≤ 4294967295) (hv : 0 ≤ v ∧ v ≤ 4294967295) :
    sphragislaw08_CellBoxes.f 64 x y l a b c d u v = some true := by
  unfold sphragislaw08_CellBoxes.f
  rw [shown_true, cell_Far.eq 63 x y l u v (by omega) (by omega) (by omega) (by omega) (by omega) (by omega), ref_Far.eq 63 x y l u v (by omega) (by omega) (by omega) (by omega) (by omega) (by omega) (by omega) (by omega)]
  simp only [Option.bind_some, if_true]
  rw [cell_Touches.eq x y l a b c d (by omega) (by omega) (by omega) (by omega), ref_Touches.eq 63 x y l a b c d (by omega) (by omega) (by omega) (by omega) (by omega) (by omega) (by omega) (by omega) (by omega) (by omega) (by omega) (by omega)]
  simp only [Option.bind_some, beq_self_eq_true, if_true]
  rw [cell_Within.eq x y l a b c d (by omega) (by omega) (by omega) (by omega), ref_Within.eq 63 x y l a b c d (by omega) (by omega) (by omega) (by omega) (by omega) (by omega) (by omega) (by omega) (by omega) (by omega) (by omega) (by omega)]
  simp only [Option.bind_some, beq_self_eq_true, if_true]

end Go.Proofs.Ytnpnmbfbdnbeoaa.P

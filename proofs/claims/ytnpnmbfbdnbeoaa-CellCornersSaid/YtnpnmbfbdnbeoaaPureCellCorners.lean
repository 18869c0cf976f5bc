/- The pure statement of CellCorners: its arguments lie in their kinds. -/
import Derived.Test.YtnpnmbfbdnbeoaaWalkCellCorners
namespace Go.Proofs.Ytnpnmbfbdnbeoaa.P
set_option linter.unusedVariables false
theorem pure_CellCorners (x y l n : Int) (hx : 0 ≤ x ∧ x ≤ 4294967295) (hy : 0 ≤ y ∧ y ≤ 4294967295) (hl : -9223372036854775808 ≤ l ∧ l ≤ 9223372036854775807) (hn : -9223372036854775808 ≤ n ∧ n ≤ 9223372036854775807) :
    sphragislaw08_CellCorners.f x y l n = some true := if_pos ⟨hx.1, by omega, hy.1, by omega⟩
end Go.Proofs.Ytnpnmbfbdnbeoaa.P

/- The known answers of layer 8: the statements' own head is true. -/
import Derived.Test.YtnpnmbfbdnbeoaaPx4
namespace Go.Proofs.Ytnpnmbfbdnbeoaa.P
theorem shown_true : sphragislaw08_shown.f 64 = some true := by decide +kernel
end Go.Proofs.Ytnpnmbfbdnbeoaa.P

/- The law PlainGets, plain: both get the same. -/
import Derived.Test.YtpgjbabbfnglfaaSpE
import Derived.Test.YtpgjbabbfnglfaaPx16
set_option linter.unusedVariables false
namespace Go.Proofs.Ytpgjbabbfnglfaa.P
theorem pure_PlainGets (l0 : List Row) (a1 : Int) (ok0 : ∀ s ∈ l0, wfRow s) (len0 : l0.length < 140737488355328) (b1 : 0 ≤ a1 ∧ a1 ≤ 18446744073709551615) : sphragislaw12_PlainGets.f 256 l0 a1 = some true := by
  have h := few_len l0
  unfold sphragislaw12_PlainGets.f
  rw [shown256, few_f]
  simp only [Option.bind_some]
  rw [plain_get _ _ _ (by omega) (by omega), ref_get _ _ _ (by omega) (by omega)]
  simp
end Go.Proofs.Ytpgjbabbfnglfaa.P

/- The law PlainApplies, plain: both changes come to the same. -/
import Derived.Test.YtpgjbabbfnglfaaSpE
import Derived.Test.YtpgjbabbfnglfaaPx9
set_option linter.unusedVariables false
namespace Go.Proofs.Ytpgjbabbfnglfaa.P
theorem pure_PlainApplies (l0 : List Row) (s1 : Opn) (ok0 : ∀ s ∈ l0, wfRow s) (len0 : l0.length < 140737488355328) (w1 : wfOp s1) : sphragislaw12_PlainApplies.f 256 l0 s1.f0 s1.f1.f0 s1.f1.f1 s1.f1.f2 s1.f1.f3 = some true := by
  have h := few_len l0
  have h2 := applyP_len (l0.take 60) s1
  unfold sphragislaw12_PlainApplies.f
  rw [shown256, few_f]
  simp only [Option.bind_some]
  rw [plain_apply _ _ _ (by omega) (by omega), ref_apply _ _ _ (by omega) (by omega)]
  simp only [Option.bind_some, if_true]
  rw [same_self _ _ (by omega) (by omega)]
  simp
end Go.Proofs.Ytpgjbabbfnglfaa.P

/- The law PlainBatches, plain: many changes come to the same. -/
import Derived.Test.YtpgjbabbfnglfaaSpF
import Derived.Test.YtpgjbabbfnglfaaPx11
set_option linter.unusedVariables false
namespace Go.Proofs.Ytpgjbabbfnglfaa.P
open Go.RowKit Go.Proofs.YtpgjbabbfnglfaaW.PrintWords Go.Proofs.YtpgjbabbfnglfaaW.PrintLast Go.Proofs.YtpgjbabbfnglfaaW.PrintMore
theorem shown512 : sphragislaw12_shown.f 512 = some true := by decide +kernel
theorem pure_PlainBatches (l0 : List Row) (l1 : List Opn) (ok0 : ∀ s ∈ l0, wfRow s) (len0 : l0.length < 140737488355328) (ok1 : ∀ s ∈ l1, wfOp s) (len1 : l1.length < 140737488355328) : sphragislaw12_PlainBatches.f 512 l0 l1 = some true := by
  have h := few_len l0
  unfold sphragislaw12_PlainBatches.f
  have hm : 0 ≤ mn (l1.length : Int) 70 ∧ mn (l1.length : Int) 70 ≤ l1.length ∧ (mn (l1.length : Int) 70).toNat ≤ 70 := by unfold mn; split <;> omega
  rw [shown512, few_f, Option.bind_some, if_pos hm.1, if_pos hm.2.1]
  simp only [Option.bind_some]
  generalize hy : l1.take (mn (l1.length : Int) 70).toNat = ops
  have hl : ops.length ≤ 70 := by rw [← hy, List.length_take]; omega
  rw [plain_batch _ _ _ (by omega) (by omega), ref_batch _ _ _ (by omega) (by omega)]
  simp only [Option.bind_some, if_true]
  have := batchP_len (l0.take 60) ops
  rw [same_self _ _ (by omega) (by omega)]
  simp
end Go.Proofs.Ytpgjbabbfnglfaa.P

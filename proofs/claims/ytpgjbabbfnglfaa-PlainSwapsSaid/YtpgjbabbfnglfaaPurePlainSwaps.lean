/- The law PlainSwaps, plain: changes of unlike ids come to the same in either order. -/
import Derived.Test.YtpgjbabbfnglfaaSpH
import Derived.Test.YtpgjbabbfnglfaaPx14
set_option linter.unusedVariables false
namespace Go.Proofs.Ytpgjbabbfnglfaa.P
open Go.RowKit Go.Proofs.YtpgjbabbfnglfaaW.PrintWords Go.Proofs.YtpgjbabbfnglfaaW.PrintLast Go.Proofs.YtpgjbabbfnglfaaW.PrintMore
theorem pure_PlainSwaps (l0 : List Row) (s1 s2 : Opn) (ok0 : ∀ s ∈ l0, wfRow s) (len0 : l0.length < 140737488355328) (w1 : wfOp s1) (w2 : wfOp s2) :
    sphragislaw12_PlainSwaps.f 256 l0 s1.f0 s1.f1.f0 s1.f1.f1 s1.f1.f2 s1.f1.f3 s2.f0 s2.f1.f0 s2.f1.f1 s2.f1.f2 s2.f1.f3 = some true := by
  have h := few_len l0
  unfold sphragislaw12_PlainSwaps.f
  rw [shown256, few_f]
  simp only [Option.bind_some]
  generalize l0.take 60 = l at *
  by_cases hid : s1.f1.f0 = s2.f1.f0
  · rw [if_pos hid]
  · have b1 := applyP_len l s1
    have b2 := applyP_len (applyP l s1).1 s2
    have b3 := applyP_len l s2
    have b4 := applyP_len (applyP l s2).1 s1
    rw [if_neg hid, plain_apply l s1 _ (by omega) (by omega), Option.bind_some, plain_apply _ s2 _ (by omega) (by omega), Option.bind_some, plain_apply l s2 _ (by omega) (by omega), Option.bind_some, plain_apply _ s1 _ (by omega) (by omega), Option.bind_some]
    by_cases h1 : (applyP l s1).2 = 0
    · rw [if_pos h1]
      by_cases h2 : (applyP (applyP l s1).1 s2).2 = 0
      · obtain ⟨e1, e2, e3⟩ := swap_all (by omega) hid h1 h2
        rw [if_pos h2, if_pos trivial, if_pos e1, if_pos e2, e3, same_self _ _ (by omega) (by omega)]
        rfl
      · rw [if_neg h2, if_pos trivial]
        by_cases h3 : (applyP l s2).2 = 0
        · have h5 : (applyP (applyP l s2).1 s1).2 ≠ 0 := fun h4 => h2 (swap_all (by omega) (Ne.symm hid) h3 h4).2.1
          rw [if_pos h3, bne_iff_ne.2 h5]
        · rw [if_neg h3]
    · rw [if_neg h1, if_pos trivial]
      by_cases h3 : (applyP l s2).2 = 0
      · have h5 : (applyP (applyP l s2).1 s1).2 ≠ 0 := fun h4 => h1 (swap_all (by omega) (Ne.symm hid) h3 h4).1
        rw [if_pos h3, bne_iff_ne.2 h5]
      · rw [if_neg h3]
end Go.Proofs.Ytpgjbabbfnglfaa.P

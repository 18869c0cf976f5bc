/- What In and RightBox say, of the reference. Plain. -/
import Derived.Test.YtoimgijhekahhaaJPlain
import Derived.Test.YtoimgijhekahhaaPx14
import Derived.Test.YtoimgijhekahhaaPx904
namespace Go.Proofs.Ytoimgijhekahhaa.P
set_option linter.unusedVariables false
set_option linter.unusedSimpArgs false
open Go.RowKit Go.Proofs.YtoimgijhekahhaaOwn Go.Proofs.YtoimgijhekahhaaW.PrintWords Go.Proofs.YtoimgijhekahhaaW.PrintLast Go.Proofs.YtoimgijhekahhaaW.PrintMore
theorem ref_RightBox.eq (a b c d : Int) : sphragisref08_RightBox.f a b c d = some (boxB a b c d) := by
 unfold sphragisref08_RightBox.f
 by_cases h1 : a ≤ c
 ·rw [if_pos h1]
  by_cases h2 : b ≤ d
  ·rw [if_pos h2]
   by_cases h3 : c < 2147483648
   ·rw [if_pos h3]; congr 1; rw [Bool.eq_iff_iff, decide_eq_true_iff, boxB_iff]; omega
   ·rw [if_neg h3]; congr 1; symm; rw [Bool.eq_false_iff]; intro h; exact h3 (boxB_iff.1 h).2.2.1
  ·rw [if_neg h2]; congr 1; symm; rw [Bool.eq_false_iff]; intro h; exact h2 (boxB_iff.1 h).2.1
 ·rw [if_neg h1]; congr 1; symm; rw [Bool.eq_false_iff]; intro h; exact h1 (boxB_iff.1 h).1

theorem ref_In.eq (a b c d u v : Int) : sphragisref08_In.f a b c d u v = some (inB a b c d u v) := by
 unfold sphragisref08_In.f; rw [ref_RightBox.eq]; exact in_chain a b c d u v

end Go.Proofs.Ytoimgijhekahhaa.P

/- The pure statement of FindNone. -/
import Derived.Test.YtoimgijhekahhaaWalkFindNone
namespace Go.Proofs.Ytoimgijhekahhaa.P
open Go.RowKit Go.Proofs.YtoimgijhekahhaaOwn Go.Proofs.YtoimgijhekahhaaW.PrintWords Go.Proofs.YtoimgijhekahhaaW.PrintLast Go.Proofs.YtoimgijhekahhaaW.PrintMore
set_option linter.unusedVariables false
set_option linter.unusedSimpArgs false
theorem right_nil : rightL ([] : List Row) = true := by decide
theorem full_nil (q : Q11) : fullP [] q = [] := by
  have := full_len (l := []) (q := q)
  simpa using this
theorem pure_FindNone (q : Q11) (most : Int) (wq : wfQ q) (hm : -9223372036854775808 ≤ most ∧ most ≤ 9223372036854775807) : true = true ∧ 128 ≤ 512 ∧ wfQ q ∧ -9223372036854775808 ≤ most ∧ AskF 512 [] q = some ([], false, checkP q) ∧ ∃ f, allQ [] q (mn most 100) = ([], f) ∧ (f = checkP q ∨ f = 2) := by
  refine ⟨rfl, by decide, wq, hm.1, ?_, ?_⟩
  · rw [AskF_eq (by simp) (by decide) (by decide) wq]
    by_cases hc : checkP q = 0
    · have hk := check_k0 hc
      rw [ask_good right_nil wq hc, full_nil, hc]
      have hd : decide (q.k < (([] : List Row).length : Int)) = false := decide_eq_false (by rw [List.length_nil]; omega)
      rw [hd, List.take_nil]
    · unfold askP
      rw [if_pos right_nil, if_neg hc]
  · unfold allQ
    by_cases hb : q.kind = 3 ∨ mn most 100 < 0
    · rw [if_pos hb]; exact ⟨2, rfl, .inr rfl⟩
    · rw [if_neg hb, if_pos right_nil]
      by_cases hc : checkP q = 0
      · rw [if_pos hc, full_nil]; exact ⟨0, by simp, .inl hc.symm⟩
      · rw [if_neg hc]; exact ⟨_, rfl, .inl rfl⟩
end Go.Proofs.Ytoimgijhekahhaa.P

/- The law PlainKeeps, plain: what was put is got, what was deleted is not, others are as they were. -/
import Derived.Test.YtpgjbabbfnglfaaSpH
import Derived.Test.YtpgjbabbfnglfaaPx17
set_option linter.unusedVariables false
set_option linter.unusedSimpArgs false
namespace Go.Proofs.Ytpgjbabbfnglfaa.P
open Go.RowKit Go.Proofs.YtpgjbabbfnglfaaW.PrintWords Go.Proofs.YtpgjbabbfnglfaaW.PrintLast Go.Proofs.YtpgjbabbfnglfaaW.PrintMore
theorem newR_putOp (l : List Row) (r : Row) : newR l ⟨1, r⟩ = some r := by
  unfold newR
  dsimp only
  rw [if_neg (by decide)]
  cases atId l r.f0 with
  | none => rfl
  | some x => simp
theorem pure_PlainKeeps (l0 : List Row) (s1 : Row) (a2 : Int) (ok0 : ∀ s ∈ l0, wfRow s) (len0 : l0.length < 140737488355328) (w1 : wfRow s1) (b2 : 0 ≤ a2 ∧ a2 ≤ 18446744073709551615) :
    sphragislaw12_PlainKeeps.f 256 l0 s1.f0 s1.f1 s1.f2 s1.f3 a2 = some true := by
  have h := few_len l0
  unfold sphragislaw12_PlainKeeps.f
  rw [shown256, few_f]
  simp only [Option.bind_some]
  generalize l0.take 60 = l at *
  have e1 := plain_apply l ⟨1, s1⟩ 256 (by omega) (by omega)
  dsimp only at e1
  rw [e1, Option.bind_some]
  by_cases h1 : (applyP l ⟨1, s1⟩).2 = 0
  · have g1 := goes_of h1
    have ha := (rightB_iff.1 g1.1).2.1
    have bm := len_put_le ⟨1, s1⟩ ha
    rw [apply_goes (by omega) g1]
    dsimp only
    have rm := right_put (by omega) g1
    have hn1 : ∀ j, atId (putR l ⟨1, s1⟩) j = if j = s1.f0 then some s1 else atId l j := fun j => by rw [atId_put _ j ha, newR_putOp]
    generalize putR l ⟨1, s1⟩ = m at *
    have ham := (rightB_iff.1 rm).2.1
    have g2 : goes m ⟨3, ⟨s1.f0, 0, 0, ⟨#[]⟩⟩⟩ := ⟨rm, by simp [chkE], fun _ => by rw [hn1]; simp⟩
    have bn := len_put_le ⟨3, ⟨s1.f0, 0, 0, ⟨#[]⟩⟩⟩ ham
    have e2 := plain_apply m ⟨3, ⟨s1.f0, 0, 0, ⟨#[]⟩⟩⟩ 256 (by omega) (by omega)
    dsimp only at e2
    rw [if_pos rfl, plain_get m s1.f0 256 (by omega) (by omega), Option.bind_some, e2, Option.bind_some, apply_goes (by omega) g2]
    dsimp only
    have rn := right_put (by omega) g2
    have hn2 : ∀ j, atId (putR m ⟨3, ⟨s1.f0, 0, 0, ⟨#[]⟩⟩⟩) j = if j = s1.f0 then none else atId m j := fun j => by rw [atId_put _ j ham]; simp [newR]
    generalize putR m ⟨3, ⟨s1.f0, 0, 0, ⟨#[]⟩⟩⟩ = n at *
    rw [plain_get n s1.f0 256 (by omega) (by omega), Option.bind_some, plain_get l a2 256 (by omega) (by omega), Option.bind_some, plain_get m a2 256 (by omega) (by omega), Option.bind_some, plain_get n a2 256 (by omega) (by omega), Option.bind_some]
    have q0 := hn1 s1.f0
    have q3 := hn2 s1.f0
    rw [if_pos rfl] at q0 q3
    rw [getP_right _ rm, getP_right _ rm, getP_right _ rn, getP_right _ rn, getP_right _ g1.1, q0, q3]
    have f0 : got (some s1) = (s1.f0, s1.f1, s1.f2, s1.f3, 0) := rfl
    have f1 : got none = (0, 0, 0, ⟨#[]⟩, 100) := rfl
    rw [f0, f1]
    dsimp only
    rw [if_pos rfl, if_pos rfl, if_pos rfl, sphragislaw12_PlainKeeps.j0]
    rw [if_neg (by simp), if_pos rfl, quad_right m _ (by omega) (by omega), rm, Option.bind_some, if_pos rfl, quad_right n _ (by omega) (by omega), rn, Option.bind_some, if_pos rfl]
    by_cases hj : a2 = s1.f0
    · rw [if_pos hj]
    · have q1 := hn1 a2
      have q2 := hn2 a2
      rw [if_neg hj] at q1 q2
      rw [if_neg hj, q2, q1]
      simp
  · rw [if_neg h1, if_pos trivial, quad_right l _ (by omega) (by omega), Option.bind_some]
    cases hr : rightB l with
    | false => rfl
    | true =>
      rw [if_pos rfl, qrow, Option.bind_some]
      cases ho : okR s1 with
      | false => rfl
      | true =>
        exfalso
        refine h1 ?_
        have hc : chkE ⟨1, s1⟩ = 0 := by simp [chkE, ho]
        rw [apply_goes (by omega) ⟨hr, hc, fun h => absurd rfl h⟩]
end Go.Proofs.Ytpgjbabbfnglfaa.P

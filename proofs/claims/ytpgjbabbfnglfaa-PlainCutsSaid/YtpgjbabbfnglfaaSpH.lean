/- Layer 12, plain: two changes of unlike ids, in either order. -/
import Derived.Test.YtpgjbabbfnglfaaSpG
set_option linter.unusedVariables false
set_option linter.unusedSimpArgs false
namespace Go.Proofs.Ytpgjbabbfnglfaa.P
open Go.RowKit Go.Proofs.YtpgjbabbfnglfaaW.PrintWords Go.Proofs.YtpgjbabbfnglfaaW.PrintLast Go.Proofs.YtpgjbabbfnglfaaW.PrintMore
theorem len_put_le {l : List Row} (o : Opn) (h : ascS l) : (putR l o).length ≤ l.length + 1 := by
  have h1 := len_put o h
  have h2 : (newR l o).toList.length ≤ 1 := by cases newR l o <;> simp
  omega
theorem newR_put {l : List Row} {o p : Opn} (h : ascS l) (hne : p.f1.f0 ≠ o.f1.f0) : newR (putR l o) p = newR l p := by
  have := atId_put o p.f1.f0 h
  rw [if_neg hne] at this
  unfold newR
  rw [this]
theorem swap_eq {l : List Row} {o p : Opn} (h : ascS l) (hne : o.f1.f0 ≠ p.f1.f0) : putR (putR l o) p = putR (putR l p) o := by
  refine asc_ext (asc_put p (asc_put o h)) (asc_put o (asc_put p h)) (fun j => ?_)
  rw [atId_put p j (asc_put o h), atId_put o j (asc_put p h), atId_put o j h, atId_put p j h, newR_put h (Ne.symm hne), newR_put h hne]
  by_cases h1 : j = p.f1.f0
  · have h2 : j ≠ o.f1.f0 := fun e => hne (e.symm.trans h1)
    rw [if_pos h1, if_neg h2, if_pos h1]
  · rw [if_neg h1, if_neg h1]
theorem swap_goes {l : List Row} {o p : Opn} (hl : l.length < 900) (hne : o.f1.f0 ≠ p.f1.f0) (h1 : goes l o) (h2 : goes (putR l o) p) : goes l p ∧ goes (putR l p) o := by
  have ha := (rightB_iff.1 h1.1).2.1
  have g1 : goes l p := ⟨h1.1, h2.2.1, fun h => by have := h2.2.2 h; rw [atId_put o _ ha, if_neg (Ne.symm hne)] at this; exact this⟩
  refine ⟨g1, right_put (by omega) g1, h1.2.1, fun h => ?_⟩
  rw [atId_put p _ ha, if_neg hne]
  exact h1.2.2 h
/-- If two changes go through in one order, they do in the other one, to the same rows. -/
theorem swap_all {l : List Row} {o p : Opn} (hl : l.length < 900) (hne : o.f1.f0 ≠ p.f1.f0) (h1 : (applyP l o).2 = 0) (h2 : (applyP (applyP l o).1 p).2 = 0) :
    (applyP l p).2 = 0 ∧ (applyP (applyP l p).1 o).2 = 0 ∧ (applyP (applyP l o).1 p).1 = (applyP (applyP l p).1 o).1 := by
  have g1 := goes_of h1
  have ha := (rightB_iff.1 g1.1).2.1
  have b1 := len_put_le o ha
  have b2 := len_put_le p ha
  have e1 := apply_goes (by omega) g1
  rw [e1] at h2 ⊢
  dsimp only at h2 ⊢
  have g2 := goes_of h2
  obtain ⟨g3, g4⟩ := swap_goes hl hne g1 g2
  have e2 := apply_goes (by omega) g2
  have e3 := apply_goes (by omega) g3
  have e4 := apply_goes (by omega) g4
  rw [e3]
  dsimp only
  rw [e2, e4]
  exact ⟨rfl, rfl, swap_eq ha hne⟩
theorem getP_right {l : List Row} (id : Int) (h : rightB l = true) : getP l id = got (atId l id) := by unfold getP; rw [if_pos h]
theorem got_err (o : Option Row) : (got o).2.2.2.2 = 0 ∨ (got o).2.2.2.2 = 100 := by cases o <;> simp [got]
theorem got_ok {o : Option Row} (h : (got o).2.2.2.2 = 0) : ∃ x, o = some x ∧ got o = (x.f0, x.f1, x.f2, x.f3, 0) := by
  cases o with
  | none => simp [got] at h
  | some x => exact ⟨x, rfl, rfl⟩
end Go.Proofs.Ytpgjbabbfnglfaa.P

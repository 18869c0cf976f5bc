/- Layer 12, plain: a change, in closed form. -/
import Derived.Test.YtpgjbabbfnglfaaSpA
import Derived.Test.YtpgjbabbfnglfaaPx3
import Derived.Test.YtpgjbabbfnglfaaPx4
import Derived.Test.YtpgjbabbfnglfaaPx7
import Derived.Test.YtpgjbabbfnglfaaPx8
import Derived.Test.YtpgjbabbfnglfaaPx15
import Derived.Test.YtpgjbabbfnglfaaPx5
import Derived.Test.YtpgjbabbfnglfaaPx7
set_option linter.unusedVariables false
set_option linter.unusedSimpArgs false
namespace Go.Proofs.Ytpgjbabbfnglfaa.P
open Go.RowKit Go.Proofs.YtpgjbabbfnglfaaW.PrintWords Go.Proofs.YtpgjbabbfnglfaaW.PrintLast Go.Proofs.YtpgjbabbfnglfaaW.PrintMore
abbrev Opn := S28
def under (l : List Row) (id : Int) : List Row := l.filter fun x => decide (x.f0 < id)
def above (l : List Row) (id : Int) : List Row := l.filter fun x => decide (id < x.f0)
def atId (l : List Row) (id : Int) : Option Row := l.find? fun x => x.f0 == id
theorem ascS_cons {a : Row} {l : List Row} : ascS (a :: l) ↔ (∀ x ∈ l, a.f0 < x.f0) ∧ ascS l := by unfold ascS; exact List.pairwise_cons
/-- Ascending rows fall into those below an id, that of the id, those above. -/
theorem asc_split : ∀ {l : List Row} (id : Int), ascS l → l = under l id ++ ((atId l id).toList ++ above l id)
  | [], id, _ => rfl
  | a :: l, id, h => by
    obtain ⟨h1, h2⟩ := ascS_cons.1 h
    have ih := asc_split (l := l) id h2
    by_cases h3 : a.f0 < id
    · have h4 : ¬ id < a.f0 := by omega
      have h5 : (a.f0 == id) = false := beq_eq_false_iff_ne.2 (by omega)
      unfold under above atId at *
      simp only [List.filter_cons, h3, h4, h5, decide_true, decide_false, if_true, List.find?_cons, List.cons_append, Bool.false_eq_true, if_false]
      rw [← ih]
    · have hall : ∀ x ∈ l, id < x.f0 := fun x hx => by have := h1 x hx; omega
      have hu : under l id = [] := List.filter_eq_nil_iff.2 fun x hx => by have := hall x hx; simp; omega
      have ha : above l id = l := List.filter_eq_self.2 fun x hx => by simpa using hall x hx
      have hn : atId l id = none := List.find?_eq_none.2 fun x hx => by have := hall x hx; simp; omega
      unfold under above atId at *
      by_cases h4 : a.f0 = id
      · have h5 : (a.f0 == id) = true := beq_iff_eq.2 h4
        have h6 : ¬ id < a.f0 := by omega
        simp [List.filter_cons, h3, h5, h6, List.find?_cons, hu, ha]
      · have h5 : (a.f0 == id) = false := beq_eq_false_iff_ne.2 h4
        have h6 : id < a.f0 := by omega
        simp [List.filter_cons, h3, h5, h6, List.find?_cons, hu, ha, hn]
theorem pl_under (l : List Row) (id : Int) : pl l id = (under l id).length := by unfold pl under; exact List.countP_eq_length_filter
theorem asc_take {l : List Row} (id : Int) (h : ascS l) : l.take (pl l id) = under l id := by
  rw [pl_under]
  exact (congrArg (List.take (under l id).length) (asc_split id h)).trans (List.take_left' rfl)
theorem asc_drop {l : List Row} (id : Int) (h : ascS l) : l.drop (pl l id) = (atId l id).toList ++ above l id := by
  rw [pl_under]
  exact (congrArg (List.drop (under l id).length) (asc_split id h)).trans (List.drop_left' rfl)
/-- The place of an id: how many are below; is it there. -/
theorem place_f {l : List Row} (id : Int) (h : ascS l) (hl : l.length < 4611686018427387904) : plain_place.f l id = some ((pl l id : Int), (atId l id).isSome) := by
  unfold plain_place.f
  rw [if_pos ⟨h, hl⟩]
  congr 2
  have hd := asc_drop id h
  cases ha : atId l id with
  | some x =>
    have hx : x.f0 = id := by simpa using List.find?_some ha
    rw [ha] at hd
    have hlt : pl l id < l.length := by
      have := congrArg List.length hd
      simp at this; omega
    have hg : l[pl l id] = x := by
      have := congrArg (fun t => t[0]?) hd
      simp [List.getElem?_drop, hlt] at this
      exact this
    rw [rd_at l _ hlt, hg]
    simp [hlt, hx]
  | none =>
    rw [ha] at hd
    by_cases hlt : pl l id < l.length
    · have hg : l[pl l id] ∈ above l id := by
        have : l[pl l id] ∈ l.drop (pl l id) := List.mem_drop_iff_getElem.2 ⟨0, by omega, by simp⟩
        rw [hd] at this
        simpa using this
      have : id < l[pl l id].f0 := by simpa [above] using (List.mem_filter.1 hg).2
      rw [rd_at l _ hlt]
      have hne : (l[pl l id].f0 == id) = false := beq_eq_false_iff_ne.2 (by omega)
      simp [hne]
    · simp [hlt]
end Go.Proofs.Ytpgjbabbfnglfaa.P

/- Layer 12, plain: what holds of the rows behind a change. -/
import Derived.Test.YtpgjbabbfnglfaaSpE
set_option linter.unusedVariables false
set_option linter.unusedSimpArgs false
namespace Go.Proofs.Ytpgjbabbfnglfaa.P
open Go.RowKit Go.Proofs.YtpgjbabbfnglfaaW.PrintWords Go.Proofs.YtpgjbabbfnglfaaW.PrintLast Go.Proofs.YtpgjbabbfnglfaaW.PrintMore
/-- The row that a change leaves at its id. -/
def newR (l : List Row) (o : Opn) : Option Row :=
  if o.f0 = 3 then none else some ⟨o.f1.f0, o.f1.f1, o.f1.f2, match atId l o.f1.f0 with | some x => if o.f0 = 2 then x.f3 else o.f1.f3 | none => o.f1.f3⟩
def putR (l : List Row) (o : Opn) : List Row := under l o.f1.f0 ++ ((newR l o).toList ++ above l o.f1.f0)
theorem newR_id {l : List Row} {o : Opn} {x : Row} (h : newR l o = some x) : x.f0 = o.f1.f0 := by
  unfold newR at h
  split at h
  · simp at h
  · rw [← Option.some.inj h]
theorem putP_eq (l : List Row) (o : Opn) : putP l o (atId l o.f1.f0) = putR l o := by
  unfold putP putR newR
  split <;> rfl
theorem find_none {l : List Row} {j : Int} (h : ∀ x ∈ l, x.f0 ≠ j) : l.find? (fun x => x.f0 == j) = none := List.find?_eq_none.2 fun x hx => by simpa using h x hx
theorem atId_parts (u a : List Row) (m : Option Row) (id j : Int) (hm : ∀ x, m = some x → x.f0 = id) (hj : j ≠ id) : atId (u ++ (m.toList ++ a)) j = (atId u j).or (atId a j) := by
  unfold atId
  rw [List.find?_append, List.find?_append]
  cases m with
  | none => simp
  | some x =>
    have : (x.f0 == j) = false := beq_eq_false_iff_ne.2 (by rw [hm x rfl]; exact fun e => hj e.symm)
    simp [List.find?_cons, this]
theorem atId_put {l : List Row} (o : Opn) (j : Int) (h : ascS l) : atId (putR l o) j = if j = o.f1.f0 then newR l o else atId l j := by
  by_cases hj : j = o.f1.f0
  · subst hj
    rw [if_pos rfl]
    unfold putR atId
    rw [List.find?_append, List.find?_append, find_none (l := under l o.f1.f0) (fun x hx => by have := (List.mem_filter.1 hx).2; simp at this; omega), find_none (l := above l o.f1.f0) (fun x hx => by have := (List.mem_filter.1 hx).2; simp at this; omega)]
    cases hn : newR l o with
    | none => rfl
    | some x => simp [List.find?_cons, newR_id hn]
  · rw [if_neg hj]
    conv => rhs; rw [asc_split o.f1.f0 h]
    unfold putR
    rw [atId_parts _ _ _ o.f1.f0 j (fun x hx => newR_id hx) hj, atId_parts _ _ _ o.f1.f0 j (fun x hx => (atId_mem hx).2) hj]
theorem asc_parts {u a : List Row} {m : Option Row} {id : Int} (hu : ascS u) (ha : ascS a) (h1 : ∀ x ∈ u, x.f0 < id) (h2 : ∀ x ∈ a, id < x.f0) (hm : ∀ x, m = some x → x.f0 = id) : ascS (u ++ (m.toList ++ a)) := by
  unfold ascS at *
  rw [List.pairwise_append, List.pairwise_append]
  refine ⟨hu, ⟨?_, ha, ?_⟩, ?_⟩
  · cases m <;> simp
  · intro x hx y hy
    have := hm x (by cases m <;> simp_all)
    have := h2 y hy
    omega
  · intro x hx y hy
    have h3 := h1 x hx
    rcases List.mem_append.1 hy with h | h
    · have := hm y (by cases m <;> simp_all)
      omega
    · have := h2 y h
      omega
theorem asc_put {l : List Row} (o : Opn) (h : ascS l) : ascS (putR l o) :=
  asc_parts (List.Pairwise.sublist List.filter_sublist h) (List.Pairwise.sublist List.filter_sublist h) (fun x hx => by simpa using (List.mem_filter.1 hx).2) (fun x hx => by simpa using (List.mem_filter.1 hx).2) (fun x hx => newR_id hx)
theorem len_put {l : List Row} (o : Opn) (h : ascS l) : (putR l o).length + (atId l o.f1.f0).toList.length = l.length + (newR l o).toList.length := by
  have := len_split o.f1.f0 h
  unfold putR
  rw [List.length_append, List.length_append]
  omega
/-- Does a change go through? -/
def goes (l : List Row) (o : Opn) : Prop := rightB l = true ∧ chkE o = 0 ∧ (o.f0 ≠ 1 → (atId l o.f1.f0).isSome = true)
theorem chkE_pos (o : Opn) : chkE o = 0 ∨ chkE o = 80 ∨ chkE o = 2 := by
  unfold chkE
  by_cases h3 : o.f0 = 3
  · simp [h3]
  · rw [if_neg h3]
    by_cases h2 : o.f0 = 2
    · rw [if_pos h2]; split <;> simp
    · rw [if_neg h2]
      by_cases h1 : o.f0 = 1
      · rw [if_pos h1]; split <;> simp
      · rw [if_neg h1]; simp
theorem apply_goes {l : List Row} {o : Opn} (hl : l.length < 1000) (h : goes l o) : applyP l o = (putR l o, 0) := by
  obtain ⟨h1, h2, h3⟩ := h
  unfold applyP
  rw [if_pos h1, if_pos h2]
  cases hx : atId l o.f1.f0 with
  | none =>
    rw [hx] at h3
    have h4 : o.f0 = 1 := Classical.byContradiction fun e => by simpa using h3 e
    simp only [ne_eq, h4, not_true_eq_false, if_false]
    rw [if_neg (by omega), ← hx, putP_eq]
  | some w => rw [← hx]; simp only [hx]; rw [← hx, putP_eq]
theorem goes_of {l : List Row} {o : Opn} (h : (applyP l o).2 = 0) : goes l o := by
  unfold applyP at h
  by_cases h1 : rightB l = true
  · rw [if_pos h1] at h
    by_cases h2 : chkE o = 0
    · rw [if_pos h2] at h
      refine ⟨h1, h2, fun h3 => ?_⟩
      cases hx : atId l o.f1.f0 with
      | none => rw [hx] at h; simp [h3] at h
      | some w => rfl
    · rw [if_neg h2] at h; exact absurd h h2
  · rw [if_neg h1] at h; simp at h
theorem okR_iff {x : Row} : okR x = true ↔ x.f1 < 2147483648 ∧ x.f2 < 2147483648 ∧ (x.f3.size : Int) ≤ 16 := by unfold okR; simp
theorem new_ok {l : List Row} {o : Opn} (h : goes l o) {x : Row} (hx : newR l o = some x) : okR x = true := by
  obtain ⟨h1, h2, h3⟩ := h
  unfold newR at hx
  by_cases hk3 : o.f0 = 3
  · rw [if_pos hk3] at hx; simp at hx
  · rw [if_neg hk3] at hx
    rw [← Option.some.inj hx]
    unfold chkE at h2
    rw [if_neg hk3] at h2
    by_cases hk2 : o.f0 = 2
    · rw [if_pos hk2] at h2
      have ho : okR ⟨o.f1.f0, o.f1.f1, o.f1.f2, ⟨#[]⟩⟩ = true := by
        split at h2
        · assumption
        · simp at h2
      obtain ⟨a, b, _⟩ := okR_iff.1 ho
      have hs := h3 (by omega)
      obtain ⟨w, hw⟩ := Option.isSome_iff_exists.1 hs
      have hwo := (rightB_iff.1 h1).1 w (atId_mem hw).1
      refine okR_iff.2 ⟨a, b, ?_⟩
      simp only [hw, hk2, if_true]
      exact (okR_iff.1 hwo).2.2
    · rw [if_neg hk2] at h2
      by_cases hk1 : o.f0 = 1
      · rw [if_pos hk1] at h2
        have ho : okR o.f1 = true := by
          split at h2
          · assumption
          · simp at h2
        have : (match atId l o.f1.f0 with | some x => if o.f0 = 2 then x.f3 else o.f1.f3 | none => o.f1.f3) = o.f1.f3 := by
          split
          · rw [if_neg hk2]
          · rfl
        rw [this]
        exact ho
      · rw [if_neg hk1] at h2; simp at h2
theorem right_put {l : List Row} {o : Opn} (hl : l.length < 1000) (h : goes l o) : rightB (putR l o) = true := by
  obtain ⟨ho, ha, hlen⟩ := rightB_iff.1 h.1
  have hlp := len_put o ha
  refine rightB_iff.2 ⟨fun x hx => ?_, asc_put o ha, ?_⟩
  · unfold putR at hx
    rcases List.mem_append.1 hx with h1 | h1
    · exact ho x (List.mem_filter.1 h1).1
    · rcases List.mem_append.1 h1 with h2 | h2
      · exact new_ok h (by cases hn : newR l o <;> simp_all)
      · exact ho x (List.mem_filter.1 h2).1
  · have : (newR l o).toList.length ≤ 1 := by cases newR l o <;> simp
    omega
/-- Ascending rows are told by their ids. -/
theorem asc_ext : ∀ {l m : List Row}, ascS l → ascS m → (∀ j, atId l j = atId m j) → l = m
  | [], [], _, _, _ => rfl
  | [], b :: m, _, _, h => by have := h b.f0; simp [atId, List.find?_cons] at this
  | a :: l, [], _, _, h => by have := h a.f0; simp [atId, List.find?_cons] at this
  | a :: l, b :: m, hl, hm, h => by
    obtain ⟨h1, h2⟩ := ascS_cons.1 hl
    obtain ⟨h3, h4⟩ := ascS_cons.1 hm
    have ha : atId (b :: m) a.f0 = some a := by rw [← h]; simp [atId, List.find?_cons]
    have hb : atId (a :: l) b.f0 = some b := by rw [h]; simp [atId, List.find?_cons]
    have hab : a = b := by
      rcases List.mem_cons.1 (atId_mem ha).1 with e | e
      · exact e
      · have q1 := h3 a e
        rcases List.mem_cons.1 (atId_mem hb).1 with e2 | e2
        · exact e2.symm
        · have := h1 b e2; omega
    subst hab
    congr 1
    refine asc_ext h2 h4 (fun j => ?_)
    by_cases hj : a.f0 = j
    · have e1 : atId l j = none := find_none fun x hx => by have := h1 x hx; omega
      have e2 : atId m j = none := find_none fun x hx => by have := h3 x hx; omega
      rw [e1, e2]
    · have := h j
      simpa [atId, List.find?_cons, beq_eq_false_iff_ne.2 hj] using this
end Go.Proofs.Ytpgjbabbfnglfaa.P

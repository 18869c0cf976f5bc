/- Layer 9, plain: the parts of rows: they are the rows, two or more are not empty. -/
import Derived.Test.YtoimgijhekahhaaTrC
set_option linter.unusedVariables false
set_option linter.unusedSimpArgs false
namespace Go.Proofs.Ytoimgijhekahhaa.P
open Go.RowKit Go.Proofs.YtoimgijhekahhaaOwn Go.Proofs.YtoimgijhekahhaaW.PrintWords Go.Proofs.YtoimgijhekahhaaW.PrintLast Go.Proofs.YtoimgijhekahhaaW.PrintMore
theorem four_perm (f : Row → Int) : ∀ (l : List Row), (∀ r ∈ l, ∃ k : Nat, k ≤ 3 ∧ f r = (k : Int)) →
    ((l.filter fun r => f r == ((0 : Nat) : Int)) ++ ((l.filter fun r => f r == ((1 : Nat) : Int)) ++ ((l.filter fun r => f r == ((2 : Nat) : Int)) ++ (l.filter fun r => f r == ((3 : Nat) : Int))))).Perm l
  | [], _ => by simp
  | r :: l, h => by
    have ih := four_perm f l (fun s hs => h s (List.mem_cons_of_mem _ hs))
    obtain ⟨k, hk, e⟩ := h r (List.mem_cons_self)
    simp only [List.filter_cons, e]
    generalize (l.filter fun r => f r == ((0 : Nat) : Int)) = A at ih ⊢
    generalize (l.filter fun r => f r == ((1 : Nat) : Int)) = B at ih ⊢
    generalize (l.filter fun r => f r == ((2 : Nat) : Int)) = C at ih ⊢
    generalize (l.filter fun r => f r == ((3 : Nat) : Int)) = D at ih ⊢
    have : k = 0 ∨ k = 1 ∨ k = 2 ∨ k = 3 := by omega
    rcases this with rfl | rfl | rfl | rfl
    · show (r :: A ++ (B ++ (C ++ D))).Perm (r :: l)
      exact ih.cons r
    · show (A ++ (r :: B ++ (C ++ D))).Perm (r :: l)
      exact List.perm_middle.trans (ih.cons r)
    · show (A ++ (B ++ (r :: C ++ D))).Perm (r :: l)
      exact ((List.perm_middle.append_left A).trans List.perm_middle).trans (ih.cons r)
    · show (A ++ (B ++ (C ++ (r :: D)))).Perm (r :: l)
      exact ((((List.perm_middle.append_left B).trans List.perm_middle).append_left A).trans List.perm_middle).trans (ih.cons r)
theorem parts_perm {l : List Row} (hp : ∀ r ∈ l, ptR r) (hv : levP l ≠ 0) : (partsP l).flatten.Perm l := by
  have := four_perm (whereP (aroundP l)) l (fun r hr => by obtain ⟨k, h1, _, h2⟩ := where_k hp hv hr; exact ⟨k, h1, h2⟩)
  simpa [partsP, partP] using this
/-- The parts that are not empty. -/
def realP (l : List Row) : List (List Row) := (partsP l).filter fun p => !p.isEmpty
theorem flatten_real : ∀ (ps : List (List Row)), (ps.filter fun p => !p.isEmpty).flatten = ps.flatten
  | [] => rfl
  | p :: ps => by
    have ih := flatten_real ps
    cases p with
    | nil => simpa using ih
    | cons a p => simp [ih]
theorem real_perm {l : List Row} (hp : ∀ r ∈ l, ptR r) (hv : levP l ≠ 0) : (realP l).flatten.Perm l := by unfold realP; rw [flatten_real]; exact parts_perm hp hv
theorem real_mem {l p : List Row} (h : p ∈ realP l) : p ≠ [] ∧ ∃ i : Nat, i ≤ 3 ∧ p = partP (aroundP l) l i := by
  obtain ⟨h1, h2⟩ := List.mem_filter.1 h
  exact ⟨by cases p with | nil => simp at h2 | cons a b => simp, mem_parts h1⟩
theorem real_sub {l p : List Row} (h : p ∈ realP l) {r : Row} (hr : r ∈ p) : r ∈ l := by obtain ⟨_, i, _, rfl⟩ := real_mem h; exact part_sub hr
theorem real_lev {l p : List Row} (hp : ∀ r ∈ l, ptR r) (hv : levP l ≠ 0) (h : p ∈ realP l) : levP p < levP l := by obtain ⟨_, i, hi, rfl⟩ := real_mem h; exact part_lev hp hv hi
theorem real_le4 (l : List Row) : (realP l).length ≤ 4 := List.length_filter_le _ _
theorem real_ge2 {l : List Row} (hp : ∀ r ∈ l, ptR r) (hv : levP l ≠ 0) (hne : l ≠ []) : 2 ≤ (realP l).length := by
  have hperm := real_perm hp hv
  match hq : realP l with
  | [] =>
    rw [hq] at hperm
    exact absurd (List.nil_perm.1 hperm).symm.symm hne
  | [p] =>
    exfalso
    rw [hq] at hperm
    have hpl : p.Perm l := by simpa using hperm
    have hm : p ∈ realP l := by rw [hq]; exact List.mem_cons_self
    obtain ⟨_, i, hi, e⟩ := real_mem hm
    have hlen := hpl.length_eq
    have : partP (aroundP l) l i = l := by
      rw [e] at hlen
      unfold partP at hlen ⊢
      exact List.filter_eq_self.2 (by rw [← List.length_filter_eq_length_iff]; exact hlen)
    have h1 := real_lev hp hv hm
    rw [e, this] at h1
    omega
  | p :: q :: r => simp
theorem kids_real (l : List Row) (t : List Row → Nod) : kidsT t (partsP l) = (realP l).map fun p => mkNode (t p) := rfl
theorem sum_real {l : List Row} (hp : ∀ r ∈ l, ptR r) (hv : levP l ≠ 0) : ((realP l).map List.length).sum = l.length := by
  have := (real_perm hp hv).length_eq
  rwa [List.length_flatten] at this

end Go.Proofs.Ytoimgijhekahhaa.P

/- Layer 11, plain: what is left behind a piece. -/
import Derived.Test.YtoimgijhekahhaaGreatFuP
namespace Go.Proofs.YtoimgijhekahhaaGreat.P
open Go.RowKit Go.Proofs.YtoimgijhekahhaaGreatOwn Go.Proofs.YtoimgijhekahhaaGreatW.PrintWords Go.Proofs.YtoimgijhekahhaaGreatW.PrintLast Go.Proofs.YtoimgijhekahhaaGreatW.PrintMore
set_option linter.unusedVariables false
set_option linter.unusedSimpArgs false
theorem asc_filter {l : List Row} (h : ascS l) (p : Row → Bool) : ascS (l.filter p) := List.Pairwise.filter p h
theorem asc_getElem {l : List Row} (h : ascS l) {i j : Nat} (hij : i < j) (hj : j < l.length) : l[i].f0 < l[j].f0 := List.pairwise_iff_getElem.1 h i j (by omega) hj hij
theorem asc_cut {M : List Row} (h : ascS M) {n : Nat} (h0 : 0 < n) (hn : n ≤ M.length) {r : Row} (hr : M[n - 1]? = some r) : M.filter (fun x => !goneB r.f0 x) = M.drop n := by
 obtain ⟨hlt, hre⟩ := List.getElem?_eq_some_iff.1 hr
 conv => lhs; rw [← List.take_append_drop n M, List.filter_append]
 have h1 : (M.take n).filter (fun x => !goneB r.f0 x) = [] := by
  rw [List.filter_eq_nil_iff]
  intro x hx
  obtain ⟨i, hi, e⟩ := List.getElem_of_mem hx
  rw [List.length_take] at hi
  rw [List.getElem_take] at e
  have : x.f0 ≤ r.f0 := by
   rw [← e, ← hre]
   rcases Nat.lt_or_ge i (n - 1) with h2 | h2
   ·exact Int.le_of_lt (asc_getElem h h2 hlt)
   ·have : i = n - 1 := by omega
    subst this
    exact Int.le_refl _
  unfold goneB
  simp [this]
 have h2 : (M.drop n).filter (fun x => !goneB r.f0 x) = M.drop n := by
  rw [List.filter_eq_self]
  intro x hx
  obtain ⟨i, hi, e⟩ := List.getElem_of_mem hx
  rw [List.length_drop] at hi
  rw [List.getElem_drop] at e
  have : r.f0 < x.f0 := by
   rw [← e, ← hre]
   exact asc_getElem h (by omega) (by omega)
  unfold goneB
  simp; omega
 rw [h1, h2, List.nil_append]
theorem full_next {l : List Row} (g : Good l) {q : Q11} (h3 : q.kind ≠ 3) {M : List Row} (hM : fullP l q = M) {n : Nat} (h0 : 0 < n) (hn : n ≤ M.length) {r : Row} (hr : M[n - 1]? = some r) : fullP l { q with from_ := true, after := r.f0 } = M.drop n := by
 have hW : ascS (wholeP l q) := by
  unfold wholeP
  by_cases k1 : q.kind = 1
  ·rw [if_pos k1]; exact asc_filter g.asc _
  rw [if_neg k1]
  by_cases k2 : q.kind = 2
  ·rw [if_pos k2]; exact asc_filter g.asc _
  rw [if_neg k2, if_neg h3]
  exact g.asc
 have hl : fullP l { q with from_ := true, after := r.f0 } = (wholeP l q).filter (fun x => !goneB r.f0 x) := by
  unfold fullP leftQ
  rw [if_pos ⟨rfl, h3⟩]
  rfl
 rw [hl]
 unfold fullP leftQ at hM
 by_cases hf : q.from_ = true ∧ q.kind ≠ 3
 ·rw [if_pos hf] at hM
  have hA : ascS M := by rw [← hM]; exact asc_filter hW _
  rw [← asc_cut hA h0 hn hr, ← hM, List.filter_filter]
  refine List.filter_congr fun x hx => ?_
  have hrm : r ∈ (wholeP l q).filter (fun x => !goneB q.after x) := by rw [hM]; exact List.mem_of_getElem? hr
  have hra := (List.mem_filter.1 hrm).2
  unfold goneB at hra ⊢
  simp only [Bool.not_eq_true', decide_eq_false_iff_not] at hra
  rw [Bool.eq_iff_iff]
  simp
  omega
 ·rw [if_neg hf] at hM
  subst hM
  exact asc_cut hW h0 hn hr
def PcOk (F : List Row) (K : Nat) (xs : List (List Row)) : Prop := ∀ j x, xs[j]? = some x → x = (F.drop (K * j)).take K
theorem PcOk.nil (F : List Row) (K : Nat) : PcOk F K [] := fun j x h => by simp at h
theorem PcOk.snoc {F : List Row} {K : Nat} {xs : List (List Row)} {x : List Row} (h : PcOk F K xs) (hx : x = (F.drop (K * xs.length)).take K) : PcOk F K (xs ++ [x]) := fun j y hy => by
 rcases Nat.lt_or_ge j xs.length with hj | hj
 ·rw [List.getElem?_append_left hj] at hy; exact h j y hy
 ·have : j = xs.length := by
   have := (List.getElem?_eq_some_iff.1 hy).1
   rw [List.length_append, List.length_singleton] at this
   omega
  subst this
  have : x = y := by simpa using hy
  rw [← this]; exact hx
theorem PcOk.left {F : List Row} {K : Nat} {xs ys : List (List Row)} (h : PcOk F K (xs ++ ys)) : PcOk F K xs := fun j x hx => h j x (by rw [List.getElem?_append_left (List.getElem?_eq_some_iff.1 hx).1]; exact hx)
theorem PcOk.flatn {F : List Row} {K : Nat} : ∀ (n : Nat) {xs : List (List Row)}, xs.length = n → PcOk F K xs → xs.flatten = F.take (K * n)
 | 0, xs, hn, _ => by rw [List.eq_nil_of_length_eq_zero hn]; simp
 | n + 1, xs, hn, h => by
  rcases List.eq_nil_or_concat xs with rfl | ⟨ys, x, rfl⟩
  ·simp at hn
  ·rw [List.concat_eq_append] at hn h ⊢
   have hy : ys.length = n := by simpa using hn
   have hx := h ys.length x (by simp)
   rw [hy] at hx
   rw [List.flatten_append, PcOk.flatn n hy h.left, hx, Nat.mul_add, Nat.mul_one, List.take_add]
   simp
theorem PcOk.flat {F : List Row} {K : Nat} {xs : List (List Row)} (h : PcOk F K xs) : xs.flatten = F.take (K * xs.length) := PcOk.flatn _ rfl h
end Go.Proofs.YtoimgijhekahhaaGreat.P

/- Layer 9, plain: the rows of a tree. -/
import Derived.Test.YtoimgijhekahhaaPaP
import Derived.Test.YtoimgijhekahhaaPx8
import Derived.Test.YtoimgijhekahhaaPx801
set_option linter.unusedVariables false
set_option linter.unusedSimpArgs false
namespace Go.Proofs.Ytoimgijhekahhaa.P
open Go.RowKit Go.Proofs.YtoimgijhekahhaaOwn Go.Proofs.YtoimgijhekahhaaW.PrintWords Go.Proofs.YtoimgijhekahhaaW.PrintLast Go.Proofs.YtoimgijhekahhaaW.PrintMore
theorem rows_kids {ov : S39 → Bool} {is : Row → Bool} {t : List Row → Nod} : ∀ {ps : List (List Row)}, (∀ p ∈ ps, ((rowsN ov (mkNode (t p))).filter is).Perm (p.filter is)) → ((rowsL ov (ps.map fun p => mkNode (t p))).filter is).Perm (ps.flatten.filter is)
  | [], _ => by simp [rowsL]
  | p :: ps, h => by
    rw [List.map_cons, rowsL, List.filter_append, List.flatten_cons, List.filter_append]
    exact (h p (List.mem_cons_self)).append (rows_kids (fun q hq => h q (List.mem_cons_of_mem _ hq)))
/-- The rows of a tree that are asked for, cells without any passed over. -/
theorem rows_tree {ov : S39 → Bool} {is : Row → Bool} (H : ∀ (x y v : Int) (r : Row), 0 ≤ x → 0 ≤ y → rightB x y v = true → ptR r → hasB x y v r.f1 r.f2 = true → ov ⟨x, y, v⟩ = true → is r = false) :
    ∀ (n : Nat) (l : List Row), (∀ r ∈ l, ptR r) → levP l < n → ((rowsN ov (mkNode (treeP n l))).filter is).Perm (l.filter is)
  | 0, l, _, h => by omega
  | n + 1, l, hp, hv => by
    rw [treeP]
    by_cases h0 : l = []
    · rw [if_pos h0, h0, rowsN_eq]
      simp [mkNode, rowsL]
    · rw [if_neg h0]
      obtain ⟨hr, hx, hy⟩ := around_right hp
      by_cases hov : ov ⟨(aroundP l).1, (aroundP l).2.1, (aroundP l).2.2⟩ = true
      · have hnil : l.filter is = [] := List.filter_eq_nil_iff.2 (fun r hm => by rw [H _ _ _ r hx hy hr (hp r hm) (around_has hp hm) hov]; simp)
        rw [hnil]
        have : ∀ rs ks, rowsN ov (mkNode ((aroundP l).1, (aroundP l).2.1, (aroundP l).2.2, rs, ks)) = [] := fun rs ks => by rw [rowsN_eq]; exact if_pos hov
        split <;> rw [this] <;> simp
      · have hrw : ∀ rs ks, rowsN ov (mkNode ((aroundP l).1, (aroundP l).2.1, (aroundP l).2.2, rs, ks)) = rs ++ rowsL ov ks := fun rs ks => by rw [rowsN_eq]; exact if_neg hov
        by_cases h1 : l.length ≤ 4 ∨ levP l = 0
        · rw [if_pos h1, hrw]
          simp [rowsL]
        · rw [if_neg h1, hrw, List.nil_append, kids_real]
          have hv0 : levP l ≠ 0 := fun e => h1 (.inr e)
          refine (rows_kids (fun p hm => rows_tree H n p (fun r hr => hp r (real_sub hm hr)) (by have := real_lev hp hv0 hm; omega))).trans ?_
          exact (real_perm hp hv0).filter is
mutual
theorem rowsN_le (ov : S39 → Bool) : ∀ (n : S42), (rowsN ov n).length ≤ (rowsN (fun _ => false) n).length
  | ⟨c, rs, ks⟩ => by
    have := rowsL_le ov ks
    rw [rowsN, rowsN]
    split
    · exact Nat.zero_le _
    · simp; omega
theorem rowsL_le (ov : S39 → Bool) : ∀ (l : List S42), (rowsL ov l).length ≤ (rowsL (fun _ => false) l).length
  | [] => Nat.le_refl _
  | n :: l => by
    have h1 := rowsN_le ov n
    have h2 := rowsL_le ov l
    rw [rowsL, rowsL]
    simp; omega
end
theorem rows_all_tree {n : Nat} {l : List Row} (hp : ∀ r ∈ l, ptR r) (hv : levP l < n) : (rowsN (fun _ => false) (mkNode (treeP n l))).Perm l := by
  have := rows_tree (ov := fun _ => false) (is := fun _ => true) (fun _ _ _ _ _ _ _ _ _ h => by simp at h) n l hp hv
  have e : ∀ (m : List Row), m.filter (fun _ => true) = m := fun m => List.filter_eq_self.2 (fun _ _ => rfl)
  rwa [e, e] at this
theorem nodup_ids {l : List Row} (h : ascS l) : (l.map (·.f0)).Nodup := by
  unfold ascS at h
  rw [List.Nodup, List.pairwise_map]
  exact h.imp (fun h => by omega)
/-- What is asked of a tree, sorted: the rows that are asked for. -/
theorem sort_tree {ov : S39 → Bool} {is : Row → Bool} (H : ∀ (x y v : Int) (r : Row), 0 ≤ x → 0 ≤ y → rightB x y v = true → ptR r → hasB x y v r.f1 r.f2 = true → ov ⟨x, y, v⟩ = true → is r = false)
    {n : Nat} {l : List Row} (hp : ∀ r ∈ l, ptR r) (hv : levP l < n) (ha : ascS l) (hl : l.length ≤ 1000) :
    okT ov is (mkNode (treeP n l)) ∧ sortP ((rowsL ov [mkNode (treeP n l)]).filter is) = l.filter is := by
  have e : rowsL ov [mkNode (treeP n l)] = rowsN ov (mkNode (treeP n l)) := by simp [rowsL]
  have hP := rows_tree H n l hp hv
  have hnd : (((rowsN ov (mkNode (treeP n l))).filter is).map (·.f0)).Nodup := by
    refine ((hP.map (·.f0)).nodup_iff).2 ?_
    exact (nodup_ids ha).sublist ((List.filter_sublist).map _)
  unfold okT
  rw [e]
  refine ⟨⟨?_, hnd⟩, ?_⟩
  · have h1 := rowsN_le ov (mkNode (treeP n l))
    have h2 := (rows_all_tree hp hv).length_eq
    omega
  · refine (sortP_unique hnd hP.symm ?_).symm
    exact (List.Pairwise.sublist List.filter_sublist ha).imp (fun h => by omega)
end Go.Proofs.Ytoimgijhekahhaa.P

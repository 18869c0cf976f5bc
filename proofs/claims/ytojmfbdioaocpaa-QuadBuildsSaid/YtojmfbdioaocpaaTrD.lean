/- Layer 9, plain: the tree of rows: the reference's is the closed one. -/
import Derived.Test.YtojmfbdioaocpaaTrB
import Derived.Test.YtojmfbdioaocpaaTrC
import Derived.Test.YtojmfbdioaocpaaSqU
import Derived.Test.YtojmfbdioaocpaaPx11
set_option linter.unusedVariables false
set_option linter.unusedSimpArgs false
namespace Go.Proofs.Ytojmfbdioaocpaa.P
open Go.RowKit Go.Proofs.YtojmfbdioaocpaaOwn Go.Proofs.YtojmfbdioaocpaaW.PrintWords Go.Proofs.YtojmfbdioaocpaaW.PrintLast Go.Proofs.YtojmfbdioaocpaaW.PrintMore
theorem ref_tree_l1 {l : List Row} (hp : ∀ r ∈ l, ptR r) (hl : l.length ≤ 1000) (i : Nat) (x y v a b q : Int) (ks : List S33) (ha : 0 ≤ a) (ha1 : a < 4294967296) (hb : 0 ≤ b) (hb1 : b < 4294967296) : ∀ (m j k : Nat) (acc : List Row), j + m = l.length → acc.length ≤ j → m + 1 ≤ k →
    sphragisref09_tree.l1 (k + 1) l (i : Int) acc (j : Int) x y v ks a b q = sphragisref09_tree.l1 (k + 1 - m) l (i : Int) (acc ++ (l.drop j).filter fun r => hasB a b q r.f1 r.f2) (l.length : Int) x y v ks a b q
  | 0, j, k, acc, hj, _, _ => by
    rw [List.drop_eq_nil_of_le (by omega), show (j : Int) = (l.length : Int) by omega]
    simp
  | m + 1, j, k, acc, hj, hacc, hk => by
    have hjl : j < l.length := by omega
    have hr := hp l[j] (List.getElem_mem hjl)
    obtain ⟨k, rfl⟩ : ∃ k', k = k' + 1 := ⟨k - 1, by omega⟩
    rw [sphragisref09_tree.l1, if_pos (by omega), if_pos (by omega), rd_at l j hjl]
    rw [ref_Has.eq k _ _ _ _ _ ha ha1 hb hb1 hr.1 (by have := hr.2.1; omega) hr.2.2.1 (by have := hr.2.2.2; omega), Option.bind_some]
    rw [show wrap64 ((j : Int) + 1) = ((j + 1 : Nat) : Int) by rw [wrap64_id (by omega) (by omega)]; omega, List.drop_eq_getElem_cons hjl]
    cases hh : hasB a b q l[j].f1 l[j].f2 with
    | true =>
      rw [if_pos rfl, if_pos (by omega)]
      have := ref_tree_l1 hp hl i x y v a b q ks ha ha1 hb hb1 m (j + 1) k (acc ++ [l[j]]) (by omega) (by simp; omega) (by omega)
      show sphragisref09_tree.l1 (k + 1) l (i : Int) (acc ++ [l[j]]) ((j + 1 : Nat) : Int) x y v ks a b q = _
      rw [this]
      simp only [List.filter_cons, hh, if_true, List.append_assoc, List.singleton_append]
      congr 1
      omega
    | false =>
      rw [if_neg (by simp)]
      have := ref_tree_l1 hp hl i x y v a b q ks ha ha1 hb hb1 m (j + 1) k acc (by omega) (by omega) (by omega)
      rw [this]
      simp only [List.filter_cons, hh, if_false, Bool.false_eq_true]
      congr 1
      omega
/-- One quarter's round. -/
theorem ref_tree_step {l : List Row} (hp : ∀ r ∈ l, ptR r) (hl : l.length ≤ 1000) (hv : levP l ≠ 0) {t : List Row → Nod} (k i : Nat) (ks : List S33) (hi : i ≤ 3) (hk : 1 ≤ k) (hks : ks.length ≤ i)
    (ht : partP (aroundP l) l i ≠ [] → sphragisref09_tree.f k (partP (aroundP l) l i) = some (t (partP (aroundP l) l i))) :
    sphragisref09_tree.l0 (k + l.length + 2) l (i : Int) (aroundP l).1 (aroundP l).2.1 (aroundP l).2.2 ks = sphragisref09_tree.l0 k l ((i + 1 : Nat) : Int) (aroundP l).1 (aroundP l).2.1 (aroundP l).2.2 (ks ++ kidsT t [partP (aroundP l) l i]) := by
  obtain ⟨hr, hx, hy⟩ := around_right hp
  have hbd := bd_of_right hr
  have hq := around_isQ hp hv
  obtain ⟨b0, b1, b2, b3⟩ := qXY_bd hx hy hq i hi
  have e : quarterR (aroundP l).1 (aroundP l).2.1 (aroundP l).2.2 (i : Int) = (qX (aroundP l).1 (aroundP l).2.2 i, qY (aroundP l).2.1 (aroundP l).2.2 i, (aroundP l).2.2 - 1, 0) := by unfold quarterR; rw [if_pos ⟨hq, by omega, by omega⟩, Int.toNat_natCast]
  have hf : (l.drop 0).filter (fun r => hasB (qX (aroundP l).1 (aroundP l).2.2 i) (qY (aroundP l).2.1 (aroundP l).2.2 i) ((aroundP l).2.2 - 1) r.f1 r.f2) = partP (aroundP l) l i := by
    rw [List.drop_zero]
    exact List.filter_congr (fun r hr => where_iff hp hv hr hi)
  show sphragisref09_tree.l0 ((k + l.length + 1) + 1) l (i : Int) _ _ _ ks = _
  rw [sphragisref09_tree.l0, if_pos (by omega), show k + l.length + 1 = (k + l.length) + 1 from rfl, ref_Quarter.eq (k + l.length) _ _ _ _ hx hbd.1 hy hbd.2, e, Option.bind_some]
  show sphragisref09_tree.l1 (k + l.length + 1) l (i : Int) [] ((0 : Nat) : Int) _ _ _ ks (qX (aroundP l).1 (aroundP l).2.2 i) (qY (aroundP l).2.1 (aroundP l).2.2 i) ((aroundP l).2.2 - 1) = _
  have h1 := ref_tree_l1 hp hl i (aroundP l).1 (aroundP l).2.1 (aroundP l).2.2 (qX (aroundP l).1 (aroundP l).2.2 i) (qY (aroundP l).2.1 (aroundP l).2.2 i) ((aroundP l).2.2 - 1) ks b0 (by omega) b2 (by omega) l.length 0 (k + l.length) [] (by omega) (by simp)
  rw [h1 (by omega), hf, List.nil_append, show k + l.length + 1 - l.length = k + 1 by omega, sphragisref09_tree.l1, if_neg (by omega)]
  rw [show wrap64 ((i : Int) + 1) = ((i + 1 : Nat) : Int) by rw [wrap64_id (by omega) (by omega)]; omega]
  by_cases hne : partP (aroundP l) l i = []
  · rw [if_neg (by rw [hne]; simp), hne]
    simp [kidsT]
  · rw [if_pos (by have := List.length_pos_iff.2 hne; omega), ht hne, Option.bind_some, if_pos (by omega)]
    congr 1
    unfold kidsT
    rw [List.filter_cons_of_pos (by cases h : partP (aroundP l) l i with | nil => exact absurd h hne | cons a b => rfl)]
    rfl
/-- Rounds that the reference's tree takes. -/
def roundsT (n L : Nat) : Nat := n * (4 * L + 12) + 2 * L + 40
theorem roundsT_mono {n L M : Nat} (h : M ≤ L) : roundsT n M ≤ roundsT n L := by
  unfold roundsT
  have := Nat.mul_le_mul_left n (show 4 * M + 12 ≤ 4 * L + 12 by omega)
  omega
theorem ref_tree_eq : ∀ (n : Nat) (l : List Row) (k : Nat), (∀ r ∈ l, ptR r) → levP l < n → l.length ≤ 1000 → roundsT n l.length ≤ k → sphragisref09_tree.f k l = some (treeP n l)
  | 0, l, k, _, h, _, _ => by omega
  | n + 1, l, k, hp, hv, hl, hk => by
    have hr : roundsT (n + 1) l.length = roundsT n l.length + (4 * l.length + 12) := by unfold roundsT; rw [Nat.add_mul]; omega
    have hr0 : 2 * l.length + 40 ≤ roundsT n l.length := by unfold roundsT; omega
    obtain ⟨k, rfl⟩ : ∃ k', k = k' + 2 := ⟨k - 2, by omega⟩
    rw [sphragisref09_tree.f, treeP]
    by_cases h0 : l = []
    · rw [if_pos (by rw [h0]; rfl), if_pos h0]
    · have hpos := List.length_pos_iff.2 h0
      rw [if_neg (by omega), if_neg h0, ref_around_eq h0 hp (by omega) (k + 1) (by omega), Option.bind_some]
      have hlev : (aroundP l).2.2 = (levP l : Int) := around_lev
      have leaf : sphragisref09_tree.j0 (k + 1) l true (aroundP l).1 (aroundP l).2.1 (aroundP l).2.2 = some ((aroundP l).1, (aroundP l).2.1, (aroundP l).2.2, l, []) := by
        rw [sphragisref09_tree.j0, if_pos rfl, if_pos (by omega), if_pos (by omega), Option.bind_some, if_pos (by simp; omega)]
        simp
      by_cases h1 : (l.length : Int) ≤ 4
      · rw [if_pos h1, if_pos (.inl (by omega))]
        exact leaf
      · rw [if_neg h1]
        by_cases h2 : levP l = 0
        · rw [if_pos (.inr h2), show ((aroundP l).2.2 == 0) = true by rw [beq_iff_eq, hlev]; omega]
          exact leaf
        · rw [if_neg (by omega), show ((aroundP l).2.2 == 0) = false by rw [beq_eq_false_iff_ne, hlev]; omega, sphragisref09_tree.j0, if_neg (by simp)]
          have ht : ∀ (i k' : Nat), i ≤ 3 → roundsT n l.length ≤ k' → partP (aroundP l) l i ≠ [] → sphragisref09_tree.f k' (partP (aroundP l) l i) = some (treeP n (partP (aroundP l) l i)) := fun i k' hi hk' _ => by
            have h3 := part_lev hp h2 hi
            have hpl := part_len (aroundP l) l i
            exact ref_tree_eq n _ k' (fun r hr => hp r (part_sub hr)) (by omega) (by omega) (Nat.le_trans (roundsT_mono hpl) hk')
          obtain ⟨q, rfl⟩ : ∃ q, k = q + l.length + 2 + l.length + 2 + l.length + 2 + l.length + 2 := ⟨k - (4 * l.length + 8), by omega⟩
          have hl1 : ∀ (p : List Row), (kidsT (treeP n) [p]).length ≤ 1 := fun p => by unfold kidsT; rw [List.length_map]; exact List.length_filter_le _ _
          have l1 := hl1 (partP (aroundP l) l 0)
          have l2 := hl1 (partP (aroundP l) l 1)
          have l3 := hl1 (partP (aroundP l) l 2)
          have s0 := ref_tree_step (t := treeP n) hp hl h2 (q + l.length + 2 + l.length + 2 + l.length + 2) 0 [] (by omega) (by omega) (by simp) (ht 0 _ (by omega) (by omega))
          have s1 := ref_tree_step (t := treeP n) hp hl h2 (q + l.length + 2 + l.length + 2) 1 ([] ++ kidsT (treeP n) [partP (aroundP l) l 0]) (by omega) (by omega) (by simpa using l1) (ht 1 _ (by omega) (by omega))
          have s2 := ref_tree_step (t := treeP n) hp hl h2 (q + l.length + 2) 2 ([] ++ kidsT (treeP n) [partP (aroundP l) l 0] ++ kidsT (treeP n) [partP (aroundP l) l 1]) (by omega) (by omega) (by simp; omega) (ht 2 _ (by omega) (by omega))
          have s3 := ref_tree_step (t := treeP n) hp hl h2 q 3 ([] ++ kidsT (treeP n) [partP (aroundP l) l 0] ++ kidsT (treeP n) [partP (aroundP l) l 1] ++ kidsT (treeP n) [partP (aroundP l) l 2]) (by omega) (by omega) (by simp; omega) (ht 3 _ (by omega) (by omega))
          refine (s0.trans (s1.trans (s2.trans (s3.trans ?_))))
          obtain ⟨q, rfl⟩ : ∃ q', q = q' + 1 := ⟨q - 1, by omega⟩
          rw [sphragisref09_tree.l0, if_neg (by omega)]
          congr 5
          unfold kidsT partsP
          simp only [List.nil_append, ← List.map_append, ← List.filter_append, List.cons_append]
end Go.Proofs.Ytojmfbdioaocpaa.P

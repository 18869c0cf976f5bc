/- Layer 9, plain: the nearest rows, of the tree and of the rows. -/
import Derived.Test.YtoimgijhekahhaaRdP
import Derived.Test.YtoimgijhekahhaaNearD
set_option linter.unusedVariables false
set_option linter.unusedSimpArgs false
namespace Go.Proofs.Ytoimgijhekahhaa.P
open Go.RowKit Go.Proofs.YtoimgijhekahhaaOwn Go.Proofs.YtoimgijhekahhaaW.PrintWords Go.Proofs.YtoimgijhekahhaaW.PrintLast Go.Proofs.YtoimgijhekahhaaW.PrintMore
theorem dst_pt {a1 a2 : Int} (h1 : 0 ≤ a1) (h2 : 0 ≤ a2) (g1 : a1 < 2147483648) (g2 : a2 < 2147483648) {r : Row} (h : ptR r) : dstR a1 a2 r = sqZ a1 a2 r.f1 r.f2 := by
  have hb := h
  obtain ⟨b1, b2, b3, b4⟩ := hb
  unfold dstR quad_far.f
  rw [cell_Far.eq 0 r.f1 r.f2 0 a1 a2 b1 (by omega) b3 (by omega) h1 h2]
  unfold farR
  rw [if_pos ⟨right_pt h, g1, g2⟩]
  simp only [Option.bind_some, far_pt]
theorem dst_cell {a1 a2 : Int} (h1 : 0 ≤ a1) (h2 : 0 ≤ a2) (g1 : a1 < 2147483648) (g2 : a2 < 2147483648) {x y v : Int} {r : Row} (hx : 0 ≤ x) (hy : 0 ≤ y) (hr : rightB x y v = true) (hp : ptR r) (hh : hasB x y v r.f1 r.f2 = true) : dstC a1 a2 ⟨x, y, v⟩ ≤ dstR a1 a2 r := by
  rw [dst_pt h1 h2 g1 g2 hp]
  have hbd := bd_of_right hr
  unfold dstC
  rw [cell_Far.eq 0 x y v a1 a2 hx hbd.1 hy hbd.2 h1 h2]
  unfold farR
  rw [if_pos ⟨hr, g1, g2⟩]
  obtain ⟨_, q1, q2, q3, q4⟩ := hasB_iff.1 hh
  have k1 := gap_le (n := a1) (lo := x) (hi := x + sz v - 1) (m := r.f1) q1 (by omega)
  have k2 := gap_le (n := a2) (lo := y) (hi := y + sz v - 1) (m := r.f2) q2 (by omega)
  show farZ x y v a1 a2 ≤ sqZ a1 a2 r.f1 r.f2
  unfold farZ sqZ
  omega
theorem sqZ_pos (a b u v : Int) : 0 ≤ sqZ a b u v := by
  have e1 := sq_pos (a - u)
  have e2 := sq_pos (b - v)
  unfold sqZ
  omega
theorem goodL_of {x y : Int} : ∀ {l : List S42}, (∀ n ∈ l, goodN x y n) → goodL x y l
  | [], _ => by rw [goodL]; exact True.intro
  | n :: l, h => by rw [goodL]; exact ⟨h n List.mem_cons_self, goodL_of (fun m hm => h m (List.mem_cons_of_mem _ hm))⟩
theorem good_tree {a1 a2 : Int} (h1 : 0 ≤ a1) (h2 : 0 ≤ a2) (g1 : a1 < 2147483648) (g2 : a2 < 2147483648) : ∀ (n : Nat) (l : List Row), (∀ r ∈ l, ptR r) → levP l < n → goodN a1 a2 (mkNode (treeP n l))
  | 0, l, _, h => by omega
  | n + 1, l, hp, hv => by
    have hall := rows_all_tree (n := n + 1) hp hv
    rw [rowsN_eq, if_neg (by simp)] at hall
    rw [goodN_eq]
    rw [treeP] at hall ⊢
    by_cases h0 : l = []
    · rw [if_pos h0]
      exact ⟨fun r hr => by simp [mkNode, rowsL] at hr, by simp [mkNode, goodL]⟩
    · rw [if_neg h0] at hall ⊢
      obtain ⟨hr, hx, hy⟩ := around_right hp
      by_cases hc : l.length ≤ 4 ∨ levP l = 0
      · rw [if_pos hc] at hall ⊢
        exact ⟨fun r hm => dst_cell h1 h2 g1 g2 hx hy hr (hp r (hall.mem_iff.1 hm)) (around_has hp (hall.mem_iff.1 hm)), by simp [mkNode, goodL]⟩
      · rw [if_neg hc] at hall ⊢
        refine ⟨fun r hm => dst_cell h1 h2 g1 g2 hx hy hr (hp r (hall.mem_iff.1 hm)) (around_has hp (hall.mem_iff.1 hm)), ?_⟩
        have hv0 : levP l ≠ 0 := fun e => hc (.inr e)
        show goodL a1 a2 (kidsT (treeP n) (partsP l))
        rw [kids_real]
        refine goodL_of (fun m hm => ?_)
        obtain ⟨p, hpm, rfl⟩ := List.mem_map.1 hm
        exact good_tree h1 h2 g1 g2 n p (fun r hr => hp r (real_sub hpm hr)) (by have := real_lev hp hv0 hpm; omega)
theorem wL_map {t : List Row → Nod} {c : Nat} : ∀ {ps : List (List Row)}, (∀ p ∈ ps, wN (mkNode (t p)) ≤ c * p.length) → wL (ps.map fun p => mkNode (t p)) ≤ c * ps.flatten.length
  | [], _ => Nat.zero_le _
  | p :: ps, h => by
    have h1 := h p List.mem_cons_self
    have h2 := wL_map (fun q hq => h q (List.mem_cons_of_mem _ hq))
    rw [List.map_cons, wL, List.flatten_cons, List.length_append, Nat.mul_add]
    omega
theorem w_tree : ∀ (n : Nat) (l : List Row), (∀ r ∈ l, ptR r) → levP l < n → l ≠ [] → wN (mkNode (treeP n l)) ≤ (n + 1) * l.length
  | 0, l, _, h, _ => by omega
  | n + 1, l, hp, hv, h0 => by
    have hpos := List.length_pos_iff.2 h0
    rw [treeP, if_neg h0, wN_eq]
    have e : (n + 1 + 1) * l.length = (n + 1) * l.length + l.length := by rw [Nat.succ_mul]
    by_cases hc : l.length ≤ 4 ∨ levP l = 0
    · rw [if_pos hc]
      show 1 + l.length + wL [] ≤ _
      have : 1 * l.length ≤ (n + 1) * l.length := Nat.mul_le_mul_right _ (by omega)
      rw [wL, e]
      omega
    · rw [if_neg hc]
      have hv0 : levP l ≠ 0 := fun e => hc (.inr e)
      show 1 + 0 + wL (kidsT (treeP n) (partsP l)) ≤ _
      rw [kids_real]
      have := wL_map (t := treeP n) (c := n + 1) (ps := realP l) (fun p hpm => w_tree n p (fun r hr => hp r (real_sub hpm hr)) (by have := real_lev hp hv0 hpm; omega) (real_mem hpm).1)
      rw [(real_perm hp hv0).length_eq] at this
      omega
/-- The order of rows about a point. -/
def keyD (a1 a2 : Int) (a b : Row) : Bool := decide (sqZ a1 a2 a.f1 a.f2 < sqZ a1 a2 b.f1 b.f2 ∨ (sqZ a1 a2 a.f1 a.f2 = sqZ a1 a2 b.f1 b.f2 ∧ a.f0 ≤ b.f0))
def sortD (a1 a2 : Int) (l : List Row) : List Row := l.mergeSort (keyD a1 a2)
theorem sortD_perm (a1 a2 : Int) (l : List Row) : (sortD a1 a2 l).Perm l := List.mergeSort_perm _ _
theorem sortD_le (a1 a2 : Int) (l : List Row) : (sortD a1 a2 l).Pairwise fun a b => keyD a1 a2 a b = true := List.pairwise_mergeSort (le := keyD a1 a2) (fun a b c h1 h2 => by unfold keyD at *; simp only [decide_eq_true_eq] at *; omega) (fun a b => by unfold keyD; simp only [Bool.or_eq_true, decide_eq_true_eq]; omega) l
theorem asc_inj {l : List Row} (h : ascS l) {a b : Row} (ha : a ∈ l) (hb : b ∈ l) (e : a.f0 = b.f0) : a = b := nodup_inj (nodup_ids h) ha hb e
theorem sortD_unique {a1 a2 : Int} {l l' : List Row} (h : ascS l) (hp : l'.Perm l) (hs : l'.Pairwise fun a b => keyD a1 a2 a b = true) : l' = sortD a1 a2 l := by
  refine List.Perm.eq_of_pairwise (le := fun a b => keyD a1 a2 a b = true) ?_ hs (sortD_le a1 a2 l) (hp.trans (sortD_perm a1 a2 l).symm)
  intro a b ha hb k1 k2
  unfold keyD at k1 k2
  simp only [decide_eq_true_eq] at k1 k2
  exact asc_inj h (hp.mem_iff.1 ha) ((sortD_perm a1 a2 l).mem_iff.1 hb) (by omega)
theorem sortK_eq {a1 a2 : Int} (h1 : 0 ≤ a1) (h2 : 0 ≤ a2) (g1 : a1 < 2147483648) (g2 : a2 < 2147483648) {l m : List Row} (hp : ∀ r ∈ l, ptR r) (ha : ascS l) (hm : m.Perm l) : sortK a1 a2 m = sortD a1 a2 l := by
  have hpm : (sortK a1 a2 m).Perm l := (List.mergeSort_perm _ _).trans hm
  have hs : (sortK a1 a2 m).Pairwise fun a b => decide (dstR a1 a2 a < dstR a1 a2 b ∨ (dstR a1 a2 a = dstR a1 a2 b ∧ a.f0 ≤ b.f0)) = true := List.pairwise_mergeSort (le := fun a b => decide (dstR a1 a2 a < dstR a1 a2 b ∨ (dstR a1 a2 a = dstR a1 a2 b ∧ a.f0 ≤ b.f0))) (fun a b c h1 h2 => by simp only [decide_eq_true_eq] at *; omega) (fun a b => by simp only [Bool.or_eq_true, decide_eq_true_eq]; omega) m
  refine sortD_unique ha hpm (hs.imp_of_mem (fun hx hy h => ?_))
  rw [dst_pt h1 h2 g1 g2 (hp _ (hpm.mem_iff.1 hx)), dst_pt h1 h2 g1 g2 (hp _ (hpm.mem_iff.1 hy))] at h
  exact h
theorem sortD_lt {a1 a2 : Int} (h1 : 0 ≤ a1) (h2 : 0 ≤ a2) (g1 : a1 < 2147483648) (g2 : a2 < 2147483648) {l : List Row} (hp : ∀ r ∈ l, ptR r) (ha : ascS l) : (sortD a1 a2 l).Pairwise (keyLt a1 a2) := by
  have hnd : ((sortD a1 a2 l).map (·.f0)).Nodup := (((sortD_perm a1 a2 l).map (·.f0)).nodup_iff).2 (nodup_ids ha)
  have hne : (sortD a1 a2 l).Pairwise fun a b => a.f0 ≠ b.f0 := List.pairwise_map.1 hnd
  refine ((sortD_le a1 a2 l).and hne).imp_of_mem (fun hx hy h => ?_)
  unfold keyLt
  rw [dst_pt h1 h2 g1 g2 (hp _ ((sortD_perm a1 a2 l).mem_iff.1 hx)), dst_pt h1 h2 g1 g2 (hp _ ((sortD_perm a1 a2 l).mem_iff.1 hy))]
  have h3 := h.1
  unfold keyD at h3
  simp only [decide_eq_true_eq] at h3
  have h4 := h.2
  omega
def nearP (l : List Row) (a1 a2 a3 : Int) : List Row × Int := if a1 ≥ 2147483648 ∨ a2 ≥ 2147483648 ∨ a3 < 0 then ([], 2) else ((sortD a1 a2 l).take a3.toNat, 0)
theorem near_eq {l : List Row} (g : Good l) (k : Nat) {a1 a2 a3 : Int} (h1 : 0 ≤ a1) (h2 : 0 ≤ a2) : quad_Near.f k (T9 l).1 (T9 l).2.1 (T9 l).2.2.1 (T9 l).2.2.2.1 (T9 l).2.2.2.2 a1 a2 a3 = some (nearP l a1 a2 a3) := by
  have hlen := g.len
  unfold quad_Near.f nearP
  have hm : (mx a1 a2 ≥ 2147483648 ∨ a3 < 0) ↔ (a1 ≥ 2147483648 ∨ a2 ≥ 2147483648 ∨ a3 < 0) := by unfold mx; split <;> omega
  by_cases hb : a1 ≥ 2147483648 ∨ a2 ≥ 2147483648 ∨ a3 < 0
  · rw [if_pos (hm.2 hb), if_pos hb]
  · rw [if_neg (fun e => hb (hm.1 e)), if_neg hb]
    have g1 : a1 < 2147483648 := by omega
    have g2 : a2 < 2147483648 := by omega
    rw [show (⟨⟨(T9 l).1, (T9 l).2.1, (T9 l).2.2.1⟩, (T9 l).2.2.2.1, (T9 l).2.2.2.2⟩ : S42) = mkNode (treeP 32 l) from rfl]
    have hperm := rows_all_tree (n := 32) g.pt g.lev
    have hrl : rowsL (fun _ => false) [mkNode (treeP 32 l)] = rowsN (fun _ => false) (mkNode (treeP 32 l)) := by simp [rowsL]
    have hS : sortK a1 a2 (rowsL (fun _ => false) [mkNode (treeP 32 l)]) = sortD a1 a2 l := by rw [hrl]; exact sortK_eq h1 h2 g1 g2 g.pt g.asc hperm
    have hgood := good_tree h1 h2 g1 g2 32 l g.pt g.lev
    rw [goodN_eq] at hgood
    have hw : wN (mkNode (treeP 32 l)) ≤ 100000 := by
      by_cases h0 : l = []
      · subst h0
        rw [treeP, if_pos rfl]
        decide
      · have := w_tree 32 l g.pt g.lev h0
        omega
    have hok : okNear a1 a2 (mkNode (treeP 32 l)) = true := by
      unfold okNear
      rw [hS, (goodLB_iff a1 a2 _).2 hgood.2, decide_eq_true hw, decide_eq_true (sortD_lt h1 h2 g1 g2 g.pt g.asc), Bool.and_true, Bool.and_true, Bool.true_and, List.all_eq_true]
      intro r hr
      refine decide_eq_true ?_
      have hrm : r ∈ l := by
        rw [rowsN_eq, if_neg (by simp)] at hperm
        exact hperm.mem_iff.1 hr
      rw [dst_pt h1 h2 g1 g2 (g.pt r hrm)]
      exact sqZ_pos _ _ _ _
    rw [if_pos hok, hS]

end Go.Proofs.Ytoimgijhekahhaa.P

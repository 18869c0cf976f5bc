/- Layer 9, plain: the nearest rows, of the tree and of the rows. -/
import Derived.Test.YtojmfbdioaocpaaRdP
import Derived.Test.YtojmfbdioaocpaaNearD
import Derived.Test.YtojmfbdioaocpaaPx18
set_option linter.unusedVariables false
set_option linter.unusedSimpArgs false
namespace Go.Proofs.Ytojmfbdioaocpaa.P
open Go.RowKit Go.Proofs.YtojmfbdioaocpaaOwn Go.Proofs.YtojmfbdioaocpaaW.PrintWords Go.Proofs.YtojmfbdioaocpaaW.PrintLast Go.Proofs.YtojmfbdioaocpaaW.PrintMore
theorem dst_pt {a1 a2 : Int} (h1 : 0 ≤ a1) (h2 : 0 ≤ a2) (g1 : a1 < 2147483648) (g2 : a2 < 2147483648) {r : Row} (h : ptR r) : dstR a1 a2 r = sqZ a1 a2 r.f1 r.f2 := by
  have hb := h
  obtain ⟨b1, b2, b3, b4⟩ := hb
  unfold dstR quad_far.f
  rw [cell_Far.eq 0 r.f1 r.f2 0 a1 a2 b1 (by omega) b3 (by omega) h1 h2]
  unfold farR
  rw [if_pos ⟨right_pt h, g1, g2⟩]
  simp only [Option.bind_some, far_pt]
theorem dst_cell {a1 a2 : Int} (h1 : 0 ≤ a1) (h2 : 0 ≤ a2) (g1 : a1 < 2147483648) (g2 : a2 < 2147483648) {x y v : Int} {r : Row} (hx : 0 ≤ x) (hy : 0 ≤ y) (hr : rightB x y v = true) (hp : ptR r) (hh : hasB x y v r.f1 r.f2 = true) : dstC a1 a2 ⟨x, y, v⟩ ≤ dstR a1 a2 r := by
  rw [dst_pt h1 h2 g1 g2 hp]
  have hbd := bd_of_right hr
  unfold dstC
  rw [cell_Far.eq 0 x y v a1 a2 hx hbd.1 hy hbd.2 h1 h2]
  unfold farR
  rw [if_pos ⟨hr, g1, g2⟩]
  obtain ⟨_, q1, q2, q3, q4⟩ := hasB_iff.1 hh
  have k1 := gap_le (n := a1) (lo := x) (hi := x + sz v - 1) (m := r.f1) q1 (by omega)
  have k2 := gap_le (n := a2) (lo := y) (hi := y + sz v - 1) (m := r.f2) q2 (by omega)
  show farZ x y v a1 a2 ≤ sqZ a1 a2 r.f1 r.f2
  unfold farZ sqZ
  omega
theorem sqZ_pos (a b u v : Int) : 0 ≤ sqZ a b u v := by
  have e1 := sq_pos (a - u)
  have e2 := sq_pos (b - v)
  unfold sqZ
  omega
theorem goodL_of {x y : Int} : ∀ {l : List S33}, (∀ n ∈ l, goodN x y n) → goodL x y l
  | [], _ => by rw [goodL]; exact True.intro
  | n :: l, h => by rw [goodL]; exact ⟨h n List.mem_cons_self, goodL_of (fun m hm => h m (List.mem_cons_of_mem _ hm))⟩
theorem good_tree {a1 a2 : Int} (h1 : 0 ≤ a1) (h2 : 0 ≤ a2) (g1 : a1 < 2147483648) (g2 : a2 < 2147483648) : ∀ (n : Nat) (l : List Row), (∀ r ∈ l, ptR r) → levP l < n → goodN a1 a2 (mkNode (treeP n l))
  | 0, l, _, h => by omega
  | n + 1, l, hp, hv => by
    have hall := rows_all_tree (n := n + 1) hp hv
    rw [rowsN_eq, if_neg (by simp)] at hall
    rw [goodN_eq]
    rw [treeP] at hall ⊢
    by_cases h0 : l = []
    · rw [if_pos h0]
      exact ⟨fun r hr => by simp [mkNode, rowsL] at hr, by simp [mkNode, goodL]⟩
    · rw [if_neg h0] at hall ⊢
      obtain ⟨hr, hx, hy⟩ := around_right hp
      by_cases hc : l.length ≤ 4 ∨ levP l = 0
      · rw [if_pos hc] at hall ⊢
        exact ⟨fun r hm => dst_cell h1 h2 g1 g2 hx hy hr (hp r (hall.mem_iff.1 hm)) (around_has hp (hall.mem_iff.1 hm)), by simp [mkNode, goodL]⟩
      · rw [if_neg hc] at hall ⊢
        refine ⟨fun r hm => dst_cell h1 h2 g1 g2 hx hy hr (hp r (hall.mem_iff.1 hm)) (around_has hp (hall.mem_iff.1 hm)), ?_⟩
        have hv0 : levP l ≠ 0 := fun e => hc (.inr e)
        show goodL a1 a2 (kidsT (treeP n) (partsP l))
        rw [kids_real]
        refine goodL_of (fun m hm => ?_)
        obtain ⟨p, hpm, rfl⟩ := List.mem_map.1 hm
        exact good_tree h1 h2 g1 g2 n p (fun r hr => hp r (real_sub hpm hr)) (by have := real_lev hp hv0 hpm; omega)
theorem wL_map {t : List Row → Nod} {c : Nat} : ∀ {ps : List (List Row)}, (∀ p ∈ ps, wN (mkNode (t p)) ≤ c * p.length) → wL (ps.map fun p => mkNode (t p)) ≤ c * ps.flatten.length
  | [], _ => Nat.zero_le _
  | p :: ps, h => by
    have h1 := h p List.mem_cons_self
    have h2 := wL_map (fun q hq => h q (List.mem_cons_of_mem _ hq))
    rw [List.map_cons, wL, List.flatten_cons, List.length_append, Nat.mul_add]
    omega
theorem w_tree : ∀ (n : Nat) (l : List Row), (∀ r ∈ l, ptR r) → levP l < n → l ≠ [] → wN (mkNode (treeP n l)) ≤ (n + 1) * l.length
  | 0, l, _, h, _ => by omega
  | n + 1, l, hp, hv, h0 => by
    have hpos := List.length_pos_iff.2 h0
    rw [treeP, if_neg h0, wN_eq]
    have e : (n + 1 + 1) * l.length = (n + 1) * l.length + l.length := by rw [Nat.succ_mul]
    by_cases hc : l.length ≤ 4 ∨ levP l = 0
    · rw [if_pos hc]
      show 1 + l.length + wL [] ≤ _
      have : 1 * l.length ≤ (n + 1) * l.length := Nat.mul_le_mul_right _ (by omega)
      rw [wL, e]
      omega
    · rw [if_neg hc]
      have hv0 : levP l ≠ 0 := fun e => hc (.inr e)
      show 1 + 0 + wL (kidsT (treeP n) (partsP l)) ≤ _
      rw [kids_real]
      have := wL_map (t := treeP n) (c := n + 1) (ps := realP l) (fun p hpm => w_tree n p (fun r hr => hp r (real_sub hpm hr)) (by have := real_lev hp hv0 hpm; omega) (real_mem hpm).1)
      rw [(real_perm hp hv0).length_eq] at this
      omega
/-- The order of rows about a point. -/
def keyD (a1 a2 : Int) (a b : Row) : Bool := decide (sqZ a1 a2 a.f1 a.f2 < sqZ a1 a2 b.f1 b.f2 ∨ (sqZ a1 a2 a.f1 a.f2 = sqZ a1 a2 b.f1 b.f2 ∧ a.f0 ≤ b.f0))
def sortD (a1 a2 : Int) (l : List Row) : List Row := l.mergeSort (keyD a1 a2)
theorem sortD_perm (a1 a2 : Int) (l : List Row) : (sortD a1 a2 l).Perm l := List.mergeSort_perm _ _
theorem sortD_le (a1 a2 : Int) (l : List Row) : (sortD a1 a2 l).Pairwise fun a b => keyD a1 a2 a b = true := List.pairwise_mergeSort (le := keyD a1 a2) (fun a b c h1 h2 => by unfold keyD at *; simp only [decide_eq_true_eq] at *; omega) (fun a b => by unfold keyD; simp only [Bool.or_eq_true, decide_eq_true_eq]; omega) l
theorem asc_inj {l : List Row} (h : ascS l) {a b : Row} (ha : a ∈ l) (hb : b ∈ l) (e : a.f0 = b.f0) : a = b := nodup_inj (nodup_ids h) ha hb e
theorem sortD_unique {a1 a2 : Int} {l l' : List Row} (h : ascS l) (hp : l'.Perm l) (hs : l'.Pairwise fun a b => keyD a1 a2 a b = true) : l' = sortD a1 a2 l := by
  refine List.Perm.eq_of_pairwise (le := fun a b => keyD a1 a2 a b = true) ?_ hs (sortD_le a1 a2 l) (hp.trans (sortD_perm a1 a2 l).symm)
  intro a b ha hb k1 k2
  unfold keyD at k1 k2
  simp only [decide_eq_true_eq] at k1 k2
  exact asc_inj h (hp.mem_iff.1 ha) ((sortD_perm a1 a2 l).mem_iff.1 hb) (by omega)
theorem sortK_eq {a1 a2 : Int} (h1 : 0 ≤ a1) (h2 : 0 ≤ a2) (g1 : a1 < 2147483648) (g2 : a2 < 2147483648) {l m : List Row} (hp : ∀ r ∈ l, ptR r) (ha : ascS l) (hm : m.Perm l) : sortK a1 a2 m = sortD a1 a2 l := by
  have hpm : (sortK a1 a2 m).Perm l := (List.mergeSort_perm _ _).trans hm
  have hs : (sortK a1 a2 m).Pairwise fun a b => decide (dstR a1 a2 a < dstR a1 a2 b ∨ (dstR a1 a2 a = dstR a1 a2 b ∧ a.f0 ≤ b.f0)) = true := List.pairwise_mergeSort (le := fun a b => decide (dstR a1 a2 a < dstR a1 a2 b ∨ (dstR a1 a2 a = dstR a1 a2 b ∧ a.f0 ≤ b.f0))) (fun a b c h1 h2 => by simp only [decide_eq_true_eq] at *; omega) (fun a b => by simp only [Bool.or_eq_true, decide_eq_true_eq]; omega) m
  refine sortD_unique ha hpm (hs.imp_of_mem (fun hx hy h => ?_))
  rw [dst_pt h1 h2 g1 g2 (hp _ (hpm.mem_iff.1 hx)), dst_pt h1 h2 g1 g2 (hp _ (hpm.mem_iff.1 hy))] at h
  exact h
theorem sortD_lt {a1 a2 : Int} (h1 : 0 ≤ a1) (h2 : 0 ≤ a2) (g1 : a1 < 2147483648) (g2 : a2 < 2147483648) {l : List Row} (hp : ∀ r ∈ l, ptR r) (ha : ascS l) : (sortD a1 a2 l).Pairwise (keyLt a1 a2) := by
  have hnd : ((sortD a1 a2 l).map (·.f0)).Nodup := (((sortD_perm a1 a2 l).map (·.f0)).nodup_iff).2 (nodup_ids ha)
  have hne : (sortD a1 a2 l).Pairwise fun a b => a.f0 ≠ b.f0 := List.pairwise_map.1 hnd
  refine ((sortD_le a1 a2 l).and hne).imp_of_mem (fun hx hy h => ?_)
  unfold keyLt
  rw [dst_pt h1 h2 g1 g2 (hp _ ((sortD_perm a1 a2 l).mem_iff.1 hx)), dst_pt h1 h2 g1 g2 (hp _ ((sortD_perm a1 a2 l).mem_iff.1 hy))]
  have h3 := h.1
  unfold keyD at h3
  simp only [decide_eq_true_eq] at h3
  have h4 := h.2
  omega
def nearP (l : List Row) (a1 a2 a3 : Int) : List Row × Int := if a1 ≥ 2147483648 ∨ a2 ≥ 2147483648 ∨ a3 < 0 then ([], 2) else ((sortD a1 a2 l).take a3.toNat, 0)
theorem near_eq {l : List Row} (g : Good l) (k : Nat) {a1 a2 a3 : Int} (h1 : 0 ≤ a1) (h2 : 0 ≤ a2) : quad_Near.f k (T9 l).1 (T9 l).2.1 (T9 l).2.2.1 (T9 l).2.2.2.1 (T9 l).2.2.2.2 a1 a2 a3 = some (nearP l a1 a2 a3) := by
  have hlen := g.len
  unfold quad_Near.f nearP
  have hm : (mx a1 a2 ≥ 2147483648 ∨ a3 < 0) ↔ (a1 ≥ 2147483648 ∨ a2 ≥ 2147483648 ∨ a3 < 0) := by unfold mx; split <;> omega
  by_cases hb : a1 ≥ 2147483648 ∨ a2 ≥ 2147483648 ∨ a3 < 0
  · rw [if_pos (hm.2 hb), if_pos hb]
  · rw [if_neg (fun e => hb (hm.1 e)), if_neg hb]
    have g1 : a1 < 2147483648 := by omega
    have g2 : a2 < 2147483648 := by omega
    rw [show (⟨⟨(T9 l).1, (T9 l).2.1, (T9 l).2.2.1⟩, (T9 l).2.2.2.1, (T9 l).2.2.2.2⟩ : S33) = mkNode (treeP 32 l) from rfl]
    have hperm := rows_all_tree (n := 32) g.pt g.lev
    have hrl : rowsL (fun _ => false) [mkNode (treeP 32 l)] = rowsN (fun _ => false) (mkNode (treeP 32 l)) := by simp [rowsL]
    have hS : sortK a1 a2 (rowsL (fun _ => false) [mkNode (treeP 32 l)]) = sortD a1 a2 l := by rw [hrl]; exact sortK_eq h1 h2 g1 g2 g.pt g.asc hperm
    have hgood := good_tree h1 h2 g1 g2 32 l g.pt g.lev
    rw [goodN_eq] at hgood
    have hw : wN (mkNode (treeP 32 l)) ≤ 100000 := by
      by_cases h0 : l = []
      · subst h0
        rw [treeP, if_pos rfl]
        decide
      · have := w_tree 32 l g.pt g.lev h0
        omega
    have hok : okNear a1 a2 (mkNode (treeP 32 l)) = true := by
      unfold okNear
      rw [hS, (goodLB_iff a1 a2 _).2 hgood.2, decide_eq_true hw, decide_eq_true (sortD_lt h1 h2 g1 g2 g.pt g.asc), Bool.and_true, Bool.and_true, Bool.true_and, List.all_eq_true]
      intro r hr
      refine decide_eq_true ?_
      have hrm : r ∈ l := by
        rw [rowsN_eq, if_neg (by simp)] at hperm
        exact hperm.mem_iff.1 hr
      rw [dst_pt h1 h2 g1 g2 (g.pt r hrm)]
      exact sqZ_pos _ _ _ _
    rw [if_pos hok, hS]

/-! the reference: the nearest of those that are left, again and again -/
theorem tookAt (took : List Bool) (i : Nat) (h : i < took.length) : rdOf false took (i : Int) = took[i] := by unfold rdOf; simp [List.getD, h]
/-- What holds of the best so far. -/
def BestTo (D : Row → Int) (l : List Row) (took : List Bool) (i : Nat) (b : Int) : Prop :=
  (b = -1 ∧ ∀ j : Nat, j < i → took[j]? = some true) ∨ ∃ m : Nat, ∃ x : Row, b = (m : Int) ∧ m < i ∧ l[m]? = some x ∧ took[m]? = some false ∧ ∀ (j : Nat) (y : Row), j < i → took[j]? = some false → l[j]? = some y → D x < D y ∨ (D x = D y ∧ m ≤ j)
theorem ref_near_l1 {D : Row → Int} {l : List Row} {a1 a2 a3 : Int} (hD : ∀ r ∈ l, sphragisref08_Square.f a1 a2 r.f1 r.f2 = some (D r)) (hl : l.length ≤ 1000) {acc : List Row} {took : List Bool} (ht : took.length = l.length) (hacc : acc.length ≤ 1000) (hex : ∃ j : Nat, took[j]? = some false) :
    ∀ (m i k : Nat) (b : Int), i + m = l.length → BestTo D l took i b →
    ∃ (q : Nat) (x : Row), BestTo D l took l.length (q : Int) ∧ l[q]? = some x ∧ sphragisref09_Near.l1 (k + m + 2) l a1 a2 a3 acc took b (i : Int) = sphragisref09_Near.l0 (k + 1) l a1 a2 a3 (acc ++ [x]) (took.set q true)
  | 0, i, k, b, hi, hB => by
    obtain rfl : i = l.length := by omega
    rcases id hB with ⟨_, h⟩ | ⟨q, x, rfl, hq, hx, hf, hmin⟩
    · obtain ⟨j, hj⟩ := hex
      have hjl := (List.getElem?_eq_some_iff.1 hj).1
      have := h j (by omega)
      rw [hj] at this
      cases this
    · refine ⟨q, x, hB, hx, ?_⟩
      have hxq : rd_T26 l (q : Int) = x := by rw [rd_at l q hq]; exact (List.getElem?_eq_some_iff.1 hx).2
      rw [show k + 0 + 2 = (k + 1) + 1 from rfl, sphragisref09_Near.l1, if_neg (by omega), if_pos (by omega), if_pos (by omega), if_pos (by omega), if_pos (by omega), hxq, Int.toNat_natCast]
  | m + 1, i, k, b, hi, hB => by
    have hil : i < l.length := by omega
    have hw : wrap64 ((i : Int) + 1) = ((i + 1 : Nat) : Int) := by rw [wrap64_id (by omega) (by omega)]; omega
    have hti : took[i]? = some took[i] := List.getElem?_eq_getElem (by omega)
    have hli : l[i]? = some l[i] := List.getElem?_eq_getElem hil
    rw [show k + (m + 1) + 2 = (k + m + 2) + 1 by omega, sphragisref09_Near.l1, if_pos (by omega), if_pos (by omega), if_pos (by omega), tookAt took i (by omega), hw]
    cases hc : took[i] with
    | true =>
      rw [if_pos rfl]
      refine ref_near_l1 hD hl ht hacc hex m (i + 1) k b (by omega) ?_
      rcases hB with ⟨hb, h⟩ | ⟨q, x, hb, hq, hx, hf, hmin⟩
      · refine .inl ⟨hb, fun j hj => ?_⟩
        by_cases e : j = i
        · subst e; rw [hti, hc]
        · exact h j (by omega)
      · refine .inr ⟨q, x, hb, by omega, hx, hf, fun j y hj hfj hy => ?_⟩
        by_cases e : j = i
        · subst e; rw [hti, hc] at hfj; cases hfj
        · exact hmin j y (by omega) hfj hy
    | false =>
      rw [if_neg (by simp)]
      rcases hB with ⟨rfl, h⟩ | ⟨q, x, rfl, hq, hx, hf, hmin⟩
      · rw [if_pos (by omega)]
        refine ref_near_l1 hD hl ht hacc hex m (i + 1) k (i : Int) (by omega) (.inr ⟨i, l[i], rfl, by omega, hli, by rw [hti, hc], fun j y hj hfj hy => ?_⟩)
        by_cases e : j = i
        · subst e; rw [hli] at hy; cases hy; exact .inr ⟨rfl, Nat.le_refl _⟩
        · have := h j (by omega); rw [this] at hfj; cases hfj
      · obtain ⟨hql, hxe⟩ := List.getElem?_eq_some_iff.1 hx
        have hxm : x ∈ l := by rw [← hxe]; exact List.getElem_mem hql
        have hxq : rd_T26 l (q : Int) = x := by rw [rd_at l q hql]; exact hxe
        rw [if_neg (by omega), rd_at l i hil, hD _ (List.getElem_mem hil), Option.bind_some, if_pos (by omega), if_pos (by omega), hxq, hD x hxm, Option.bind_some]
        by_cases hlt : D l[i] < D x
        · rw [if_pos hlt]
          refine ref_near_l1 hD hl ht hacc hex m (i + 1) k (i : Int) (by omega) (.inr ⟨i, l[i], rfl, by omega, hli, by rw [hti, hc], fun j y hj hfj hy => ?_⟩)
          by_cases e : j = i
          · subst e; rw [hli] at hy; cases hy; exact .inr ⟨rfl, Nat.le_refl _⟩
          · have := hmin j y (by omega) hfj hy; omega
        · rw [if_neg hlt]
          refine ref_near_l1 hD hl ht hacc hex m (i + 1) k (q : Int) (by omega) (.inr ⟨q, x, rfl, by omega, hx, hf, fun j y hj hfj hy => ?_⟩)
          by_cases e : j = i
          · subst e; rw [hli] at hy; cases hy; omega
          · exact hmin j y (by omega) hfj hy
/-- Between picks: what has been taken is the first of those in order. -/
structure PickInv (a1 a2 : Int) (l acc : List Row) (took : List Bool) : Prop where
  len : took.length = l.length
  fst : acc = (sortD a1 a2 l).take acc.length
  tk : ∀ (i : Nat) (x : Row), l[i]? = some x → (took[i]? = some true ↔ x ∈ acc)
theorem asc_mono {l : List Row} (h : ascS l) {i j : Nat} {x y : Row} (hx : l[i]? = some x) (hy : l[j]? = some y) (hij : i ≤ j) : x.f0 ≤ y.f0 := by
  obtain ⟨h1, rfl⟩ := List.getElem?_eq_some_iff.1 hx
  obtain ⟨h2, rfl⟩ := List.getElem?_eq_some_iff.1 hy
  rcases Nat.lt_or_eq_of_le hij with e | e
  · exact Int.le_of_lt (List.pairwise_iff_getElem.1 h i j h1 h2 e)
  · subst e; exact Int.le_refl _
theorem PickInv.next {a1 a2 : Int} {l acc : List Row} {took : List Bool} (ha : ascS l) (h : PickInv a1 a2 l acc took) (hlt : acc.length < l.length) : ∃ s ∈ l, s ∉ acc := by
  have hSl := (sortD_perm a1 a2 l).length_eq
  have hlt' : acc.length < (sortD a1 a2 l).length := by omega
  have hnd : (sortD a1 a2 l).Nodup := by
    have : ((sortD a1 a2 l).map (·.f0)).Nodup := (((sortD_perm a1 a2 l).map (·.f0)).nodup_iff).2 (nodup_ids ha)
    exact List.Pairwise.imp (fun h e => h (by rw [e])) (List.pairwise_map.1 this)
  have hsplit : sortD a1 a2 l = acc ++ (sortD a1 a2 l)[acc.length] :: (sortD a1 a2 l).drop (acc.length + 1) := by
    conv => lhs; rw [← List.take_append_drop acc.length (sortD a1 a2 l), ← h.fst, List.drop_eq_getElem_cons hlt']
  refine ⟨(sortD a1 a2 l)[acc.length], (sortD_perm a1 a2 l).mem_iff.1 (List.getElem_mem hlt'), fun e => ?_⟩
  generalize (sortD a1 a2 l)[acc.length] = s at hsplit e
  rw [hsplit] at hnd
  exact (List.pairwise_append.1 hnd).2.2 s e s List.mem_cons_self rfl
theorem PickInv.step {a1 a2 : Int} {l acc : List Row} {took : List Bool} {q : Nat} {x : Row} (ha : ascS l) (h : PickInv a1 a2 l acc took) (hB : BestTo (fun r => sqZ a1 a2 r.f1 r.f2) l took l.length (q : Int)) (hx : l[q]? = some x) (hlt : acc.length < l.length) : PickInv a1 a2 l (acc ++ [x]) (took.set q true) := by
  have hSl := (sortD_perm a1 a2 l).length_eq
  have hml := fun r => (sortD_perm a1 a2 l).mem_iff (a := r)
  have hS : (sortD a1 a2 l)[acc.length]? = some (sortD a1 a2 l)[acc.length] := List.getElem?_eq_getElem (by omega)
  generalize hs : (sortD a1 a2 l)[acc.length] = s at hS
  have hnd : (sortD a1 a2 l).Nodup := by
    have : ((sortD a1 a2 l).map (·.f0)).Nodup := (((sortD_perm a1 a2 l).map (·.f0)).nodup_iff).2 (nodup_ids ha)
    exact List.Pairwise.imp (fun h e => h (by rw [e])) (List.pairwise_map.1 this)
  have hsplit : sortD a1 a2 l = acc ++ s :: (sortD a1 a2 l).drop (acc.length + 1) := by
    conv => lhs; rw [← List.take_append_drop acc.length (sortD a1 a2 l), ← h.fst, List.drop_eq_getElem_cons (by omega : acc.length < (sortD a1 a2 l).length), hs]
  obtain ⟨m, x', hm, hmq, hx', hf, hmin⟩ : ∃ (m : Nat) (x' : Row), (q : Int) = (m : Int) ∧ m < l.length ∧ l[m]? = some x' ∧ took[m]? = some false ∧ ∀ (j : Nat) (y : Row), j < l.length → took[j]? = some false → l[j]? = some y → sqZ a1 a2 x'.f1 x'.f2 < sqZ a1 a2 y.f1 y.f2 ∨ (sqZ a1 a2 x'.f1 x'.f2 = sqZ a1 a2 y.f1 y.f2 ∧ m ≤ j) := by
    rcases hB with ⟨e, _⟩ | ⟨m, x', h1, h2, h3, h4, h5⟩
    · omega
    · exact ⟨m, x', h1, h2, h3, h4, h5⟩
  obtain rfl : q = m := by omega
  rw [hx] at hx'
  cases hx'
  have hxn : x ∉ acc := fun e => by have := (h.tk q x hx).2 e; rw [hf] at this; cases this
  have hxl : x ∈ l := List.mem_of_getElem? hx
  have hsl : s ∈ l := (hml s).1 (List.mem_of_getElem? hS)
  have hsn : s ∉ acc := by
    intro e
    rw [hsplit] at hnd
    exact (List.pairwise_append.1 hnd).2.2 s e s List.mem_cons_self rfl
  have hxs : x = s := by
    obtain ⟨i, hi⟩ := List.getElem?_of_mem hsl
    have hil := (List.getElem?_eq_some_iff.1 hi).1
    have hfi : took[i]? = some false := by
      have e1 : took[i]? = some (took[i]'(by rw [h.len]; exact hil)) := List.getElem?_eq_getElem _
      cases hb : took[i]'(by rw [h.len]; exact hil) with
      | false => rw [e1, hb]
      | true => exact absurd ((h.tk i s hi).1 (by rw [e1, hb])) hsn
    have h1 := hmin i s hil hfi hi
    have hxS : x ∈ s :: (sortD a1 a2 l).drop (acc.length + 1) := by
      have : x ∈ sortD a1 a2 l := (hml x).2 hxl
      rw [hsplit] at this
      exact (List.mem_append.1 this).resolve_left hxn
    rcases List.mem_cons.1 hxS with e | e
    · exact e
    · have hle := sortD_le a1 a2 l
      rw [hsplit] at hle
      have h2 := (List.pairwise_cons.1 (List.pairwise_append.1 hle).2.1).1 x e
      unfold keyD at h2
      simp only [decide_eq_true_eq] at h2
      refine asc_inj ha hxl hsl ?_
      have h3 : q ≤ i → x.f0 ≤ s.f0 := fun h3 => asc_mono ha hx hi h3
      generalize sqZ a1 a2 x.f1 x.f2 = dx at h1 h2
      generalize sqZ a1 a2 s.f1 s.f2 = ds at h1 h2
      clear hmin hsplit hle hB
      rcases h1 with h1 | ⟨h1, h4⟩
      · omega
      · have := h3 h4
        omega
  subst hxs
  refine ⟨by rw [List.length_set]; exact h.len, ?_, fun i y hy => ?_⟩
  · rw [List.length_append, List.length_singleton, List.take_add_one, ← h.fst, hS]
    rfl
  · by_cases e : i = q
    · subst e
      rw [hx] at hy
      cases hy
      rw [List.getElem?_set_self (by rw [h.len]; exact hmq)]
      simp
    · rw [List.getElem?_set_ne (Ne.symm e), h.tk i y hy, List.mem_append, List.mem_singleton]
      constructor
      · exact .inl
      · rintro (h1 | h1)
        · exact h1
        · subst h1
          exfalso
          have hle1 : y.f0 = y.f0 := rfl
          obtain ⟨p1, p2⟩ := List.getElem?_eq_some_iff.1 hx
          obtain ⟨p3, p4⟩ := List.getElem?_eq_some_iff.1 hy
          rcases Nat.lt_or_gt_of_ne e with k1 | k1
          · have := List.pairwise_iff_getElem.1 ha i q p3 p1 k1
            rw [p2, p4] at this
            omega
          · have := List.pairwise_iff_getElem.1 ha q i p1 p3 k1
            rw [p2, p4] at this
            omega
theorem ref_near_l0 {l : List Row} (hp : ∀ r ∈ l, ptR r) (ha : ascS l) (hl : l.length ≤ 1000) {a1 a2 a3 : Int} (h1 : 0 ≤ a1) (h2 : 0 ≤ a2) (g1 : a1 < 2147483648) (g2 : a2 < 2147483648) (h3 : 0 ≤ a3) :
    ∀ (m k : Nat) (acc : List Row) (took : List Bool), acc.length + m = l.length → acc.length ≤ a3.toNat → PickInv a1 a2 l acc took → (m + 1) * (l.length + 5) ≤ k → sphragisref09_Near.l0 k l a1 a2 a3 acc took = some ((sortD a1 a2 l).take a3.toNat, 0)
  | m, k, acc, took, hm, ha3, hI, hk => by
    have hSl := (sortD_perm a1 a2 l).length_eq
    have hk0 : l.length + 5 ≤ k := Nat.le_trans (by rw [Nat.succ_mul]; omega) hk
    obtain ⟨k, rfl⟩ : ∃ k', k = k' + 2 := ⟨k - 2, by omega⟩
    by_cases hend : (acc.length : Int) < a3
    · by_cases hend2 : acc.length < l.length
      · obtain ⟨m, rfl⟩ : ∃ m', m = m' + 1 := ⟨m - 1, by omega⟩
        rw [show k + 2 = (k + 1) + 1 from rfl, sphragisref09_Near.l0, if_pos hend, sphragisref09_Near.j2, if_pos (decide_eq_true (by omega))]
        obtain ⟨k, rfl⟩ : ∃ k', k = k' + l.length + 2 := ⟨k - l.length - 2, by omega⟩
        have hex : ∃ j : Nat, took[j]? = some false := by
          apply Classical.byContradiction
          intro hno
          have hall : ∀ x ∈ l, x ∈ acc := by
            intro x hx
            obtain ⟨i, hi⟩ := List.getElem?_of_mem hx
            have hil := (List.getElem?_eq_some_iff.1 hi).1
            refine (hI.tk i x hi).1 ?_
            have e1 : took[i]? = some (took[i]'(by rw [hI.len]; exact hil)) := List.getElem?_eq_getElem _
            cases hb : took[i]'(by rw [hI.len]; exact hil) with
            | true => rw [e1, hb]
            | false => exact absurd ⟨i, by rw [e1, hb]⟩ hno
          obtain ⟨s, hs1, hs2⟩ := hI.next ha hend2
          exact hs2 (hall s hs1)
        obtain ⟨q, x, hB, hx, he⟩ := ref_near_l1 (D := fun r => sqZ a1 a2 r.f1 r.f2) (a3 := a3) (fun r hr => by obtain ⟨b1, b2, b3, b4⟩ := hp r hr; exact ref_Square.eq h1 (by omega) h2 (by omega) b1 (by omega) b3 (by omega) (sqZ_lt' h1 h2 g1 g2 b1 b2 b3 b4)) hl (acc := acc) hI.len (by omega) hex l.length 0 k (-1) (by omega) (.inl ⟨rfl, fun j hj => by omega⟩)
        rw [show ((0 : Nat) : Int) = 0 from rfl] at he
        rw [he]
        have e2 : (m + 1 + 1) * (l.length + 5) = (m + 1) * (l.length + 5) + (l.length + 5) := Nat.succ_mul _ _
        exact ref_near_l0 hp ha hl h1 h2 g1 g2 h3 m (k + 1) (acc ++ [x]) (took.set q true) (by simp; omega) (by simp; omega) (hI.step ha hB hx hend2) (by omega)
      · rw [show k + 2 = (k + 1) + 1 from rfl, sphragisref09_Near.l0, if_pos hend, sphragisref09_Near.j2, if_neg (by simp; omega)]
        congr 2
        rw [hI.fst, List.take_of_length_le (by omega), List.take_of_length_le (by omega)]
    · rw [show k + 2 = (k + 1) + 1 from rfl, sphragisref09_Near.l0, if_neg hend, sphragisref09_Near.j2, if_neg (by simp)]
      have : acc.length = a3.toNat := by omega
      rw [← this, ← hI.fst]
theorem ref_near_eq {l : List Row} (hp : ∀ r ∈ l, ptR r) (ha : ascS l) (hl : l.length ≤ 60) {a1 a2 a3 : Int} (h1 : 0 ≤ a1) (h2 : 0 ≤ a2) {k : Nat} (hk : 4096 ≤ k) : sphragisref09_Near.f k l a1 a2 a3 = some (nearP l a1 a2 a3) := by
  obtain ⟨k, rfl⟩ : ∃ k', k = k' + 1 := ⟨k - 1, by omega⟩
  unfold sphragisref09_Near.f nearP
  by_cases c1 : a1 ≥ 2147483648
  · rw [if_pos c1, if_pos (.inl c1), sphragisref09_Near.j0, if_pos rfl]
  · rw [if_neg c1]
    by_cases c2 : a2 ≥ 2147483648
    · rw [if_pos c2, if_pos (.inr (.inl c2)), sphragisref09_Near.j0, if_pos rfl]
    · rw [if_neg c2]
      by_cases c3 : a3 < 0
      · rw [if_pos (.inr (.inr c3)), decide_eq_true c3, sphragisref09_Near.j0, if_pos rfl]
      · rw [if_neg (by omega), decide_eq_false c3, sphragisref09_Near.j0, if_neg (by simp), if_pos (by omega), if_pos (by omega), Int.toNat_natCast]
        refine ref_near_l0 hp ha (by omega) h1 h2 (by omega) (by omega) (by omega) l.length k [] _ (by simp) (by simp) ⟨by simp, by simp, fun i x hx => ?_⟩ ?_
        · have hil := (List.getElem?_eq_some_iff.1 hx).1
          rw [List.getElem?_replicate]
          simp [hil]
        · have : (l.length + 1) * (l.length + 5) ≤ 61 * 65 := Nat.mul_le_mul (by omega) (by omega)
          omega
end Go.Proofs.Ytojmfbdioaocpaa.P

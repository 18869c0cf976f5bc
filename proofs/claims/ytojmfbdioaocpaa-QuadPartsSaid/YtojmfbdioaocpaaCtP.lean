/- Layer 9, plain: how many rows are in a box. -/
import Derived.Test.YtojmfbdioaocpaaBxP
import Derived.Test.YtojmfbdioaocpaaSqV
import Derived.Test.YtojmfbdioaocpaaPx16
import Derived.Test.YtojmfbdioaocpaaPx2101
set_option linter.unusedVariables false
set_option linter.unusedSimpArgs false
namespace Go.Proofs.Ytojmfbdioaocpaa.P
open Go.RowKit Go.Proofs.YtojmfbdioaocpaaOwn Go.Proofs.YtojmfbdioaocpaaW.PrintWords Go.Proofs.YtojmfbdioaocpaaW.PrintLast Go.Proofs.YtojmfbdioaocpaaW.PrintMore
theorem size_tree {n : Nat} {l : List Row} (hp : ∀ r ∈ l, ptR r) (hv : levP l < n) (ha : ascS l) (hl : l.length ≤ 60) (k : Nat) : quad_Size.f k (treeP n l).1 (treeP n l).2.1 (treeP n l).2.2.1 (treeP n l).2.2.2.1 (treeP n l).2.2.2.2 = some (l.length : Int) := by
  obtain ⟨h1, h2⟩ := sort_tree (ov := fun _ => false) (is := fun _ => true) (fun _ _ _ _ _ _ _ _ _ h => by simp at h) hp hv ha (by omega)
  unfold quad_Size.f quad_Rows.f
  rw [show (⟨⟨(treeP n l).1, (treeP n l).2.1, (treeP n l).2.2.1⟩, (treeP n l).2.2.2.1, (treeP n l).2.2.2.2⟩ : S33) = mkNode (treeP n l) from rfl, if_pos h1, h2, Option.bind_some]
  rw [List.filter_eq_self.2 (fun _ _ => rfl)]
def cntP (l : List Row) (b0 b1 b2 b3 : Int) : Nat := (l.filter (inR b0 b1 b2 b3)).length
theorem count_l0 {l : List Row} (hl : l.length ≤ 60) (x y v b0 b1 b2 b3 : Int) (ks : List S33) : ∀ (m j k : Nat) (a : Nat), j + m = l.length → a ≤ j → m + 1 ≤ k →
    quad_count.l0 k (a : Int) l (l.length : Int) (j : Int) x y v l ks b0 b1 b2 b3 = quad_count.l1 (k - m - 1) ((a + cntP (l.drop j) b0 b1 b2 b3 : Nat) : Int) ks (ks.length : Int) 0 b0 b1 b2 b3
  | m, j, 0, _, _, _, h => by omega
  | 0, j, k + 1, a, hj, _, _ => by
    rw [quad_count.l0, if_neg (by omega), List.drop_eq_nil_of_le (by omega)]
    rfl
  | m + 1, j, k + 1, a, hj, ha, hk => by
    have hjl : j < l.length := by omega
    have hw : wrap64 ((j : Int) + 1) = ((j + 1 : Nat) : Int) := by rw [wrap64_id (by omega) (by omega)]; omega
    have hw2 : wrap64 ((a : Int) + 1) = ((a + 1 : Nat) : Int) := by rw [wrap64_id (by omega) (by omega)]; omega
    rw [quad_count.l0, if_pos (by omega), if_pos (by omega), if_pos (by omega), rd_at l j hjl, cell_In.eq, Option.bind_some, hw, hw2, List.drop_eq_getElem_cons hjl]
    cases hh : inB b0 b1 b2 b3 l[j].f1 l[j].f2 with
    | true =>
      rw [if_pos rfl, count_l0 hl x y v b0 b1 b2 b3 ks m (j + 1) k (a + 1) (by omega) (by omega) (by omega)]
      have hn : inR b0 b1 b2 b3 l[j] = true := hh
      have e : cntP (l[j] :: l.drop (j + 1)) b0 b1 b2 b3 = 1 + cntP (l.drop (j + 1)) b0 b1 b2 b3 := by unfold cntP; rw [List.filter_cons_of_pos hn, List.length_cons]; omega
      rw [e, show k - m - 1 = k + 1 - (m + 1) - 1 by omega, show a + 1 + cntP (l.drop (j + 1)) b0 b1 b2 b3 = a + (1 + cntP (l.drop (j + 1)) b0 b1 b2 b3) by omega]
    | false =>
      rw [if_neg (by simp), count_l0 hl x y v b0 b1 b2 b3 ks m (j + 1) k a (by omega) (by omega) (by omega)]
      have hn : ¬ inR b0 b1 b2 b3 l[j] = true := by unfold inR; rw [hh]; simp
      have e : cntP (l[j] :: l.drop (j + 1)) b0 b1 b2 b3 = cntP (l.drop (j + 1)) b0 b1 b2 b3 := by unfold cntP; rw [List.filter_cons_of_neg hn]
      rw [e, show k - m - 1 = k + 1 - (m + 1) - 1 by omega]
theorem cntP_le (l : List Row) (b0 b1 b2 b3 : Int) : cntP l b0 b1 b2 b3 ≤ l.length := List.length_filter_le _ _
theorem rd_nodeC (l : List S33) (j : Nat) (h : j < l.length) : rd_T33 l (j : Int) = l[j] := by unfold rd_T33; simp [List.getD, h]
theorem count_l1_step (k : Nat) (a b0 b1 b2 b3 : Int) (kids : List S33) (j : Nat) (hj : j < kids.length) : quad_count.l1 (k + 1) a kids (kids.length : Int) (j : Int) b0 b1 b2 b3 = (quad_count.f k kids[j].f0.f0 kids[j].f0.f1 kids[j].f0.f2 kids[j].f1 kids[j].f2 b0 b1 b2 b3).bind fun t => quad_count.l1 k (wrap64 (a + t)) kids (kids.length : Int) (wrap64 ((j : Int) + 1)) b0 b1 b2 b3 := by
  rw [quad_count.l1, if_pos (by omega), if_pos (by omega), if_pos (by omega), rd_nodeC kids j hj]
def sumFrom (c : Nat → Nat) : Nat → Nat → Nat
  | _, 0 => 0
  | j, m + 1 => c j + sumFrom c (j + 1) m
theorem sumFrom_list {α : Type} (f : α → Nat) (d : α) : ∀ (ps qs : List α), sumFrom (fun i => f ((qs ++ ps).getD i d)) qs.length ps.length = (ps.map f).sum
  | [], _ => rfl
  | p :: ps, qs => by
    have ih := sumFrom_list f d ps (qs ++ [p])
    rw [List.append_assoc, List.length_append] at ih
    rw [List.length_cons, sumFrom, List.map_cons, List.sum_cons]
    have h1 : (qs ++ p :: ps).getD qs.length d = p := by simp [List.getD]
    rw [h1]
    congr 1
theorem count_l1 (W : Nat) (b0 b1 b2 b3 : Int) (kids : List S33) (h4 : kids.length ≤ 4) (c : Nat → Nat) (hc : ∀ i, c i ≤ 60)
    (ih : ∀ (i : Nat) (h : i < kids.length) (k : Nat), W ≤ k → quad_count.f k kids[i].f0.f0 kids[i].f0.f1 kids[i].f0.f2 kids[i].f1 kids[i].f2 b0 b1 b2 b3 = some (c i : Int)) : ∀ (m j k a : Nat), j + m = kids.length → W + m + 1 ≤ k → a + 60 * m ≤ 1000 →
    quad_count.l1 k (a : Int) kids (kids.length : Int) (j : Int) b0 b1 b2 b3 = some ((a + sumFrom c j m : Nat) : Int)
  | m, j, 0, _, _, h, _ => by omega
  | 0, j, k + 1, a, hj, _, _ => by
    rw [quad_count.l1, if_neg (by omega)]
    rfl
  | m + 1, j, k + 1, a, hj, hk, ha => by
    have hjl : j < kids.length := by omega
    have hcj := hc j
    have hw : wrap64 ((j : Int) + 1) = ((j + 1 : Nat) : Int) := by rw [wrap64_id (by omega) (by omega)]; omega
    have hw2 : wrap64 ((a : Int) + (c j : Int)) = ((a + c j : Nat) : Int) := by rw [wrap64_id (by omega) (by omega)]; omega
    have e := count_l1_step k (a : Int) b0 b1 b2 b3 kids j hjl
    rw [e, ih j hjl k (by omega), Option.bind_some, hw, hw2, count_l1 W b0 b1 b2 b3 kids h4 c hc ih m (j + 1) k (a + c j) (by omega) (by omega) (by omega), Nat.add_assoc]
    rfl
theorem within_in {x y v b0 b1 b2 b3 : Int} (h : withinB x y v b0 b1 b2 b3 = true) {u w : Int} (hh : hasB x y v u w = true) : inB b0 b1 b2 b3 u w = true := by
  obtain ⟨_, hb, p1, p2, p3, p4⟩ := withinB_iff.1 h
  obtain ⟨_, q1, q2, q3, q4⟩ := hasB_iff.1 hh
  exact inB_iff.2 ⟨hb, by omega, by omega, by omega, by omega⟩
theorem asc_part {l : List Row} (h : ascS l) (c : Int × Int × Int) (i : Nat) : ascS (partP c l i) := List.Pairwise.sublist List.filter_sublist h
theorem cnt_perm {l l' : List Row} (h : l.Perm l') (b0 b1 b2 b3 : Int) : cntP l b0 b1 b2 b3 = cntP l' b0 b1 b2 b3 := (h.filter _).length_eq
theorem cnt_flat (b0 b1 b2 b3 : Int) : ∀ (ps : List (List Row)), cntP ps.flatten b0 b1 b2 b3 = (ps.map fun p => cntP p b0 b1 b2 b3).sum
  | [] => rfl
  | p :: ps => by
    have := cnt_flat b0 b1 b2 b3 ps
    unfold cntP at this ⊢
    rw [List.flatten_cons, List.filter_append, List.length_append, this]
    rfl
theorem count_tree (b0 b1 b2 b3 : Int) : ∀ (n : Nat) (l : List Row) (k : Nat), (∀ r ∈ l, ptR r) → levP l < n → ascS l → l.length ≤ 60 → 8 * n + 70 ≤ k →
    quad_count.f k (treeP n l).1 (treeP n l).2.1 (treeP n l).2.2.1 (treeP n l).2.2.2.1 (treeP n l).2.2.2.2 b0 b1 b2 b3 = some (cntP l b0 b1 b2 b3 : Int)
  | 0, l, k, _, h, _, _, _ => by omega
  | n + 1, l, k, hp, hv, ha, hl, hk => by
    obtain ⟨k, rfl⟩ : ∃ k', k = k' + 1 := ⟨k - 1, by omega⟩
    have hsz := size_tree hp hv ha hl k
    rw [quad_count.f, hsz]
    by_cases h0 : l = []
    · rw [treeP, if_pos h0]
      subst h0
      show ((cell_Touches.f 0 0 0 b0 b1 b2 b3).bind fun t => if t = true then ((cell_Within.f 0 0 0 b0 b1 b2 b3).bind fun t2 => if t2 = true then ((some ((([] : List Row).length : Nat) : Int)).bind fun t3 => some t3) else quad_count.l0 k 0 [] (([] : List Row).length : Int) 0 0 0 0 [] [] b0 b1 b2 b3) else some 0) = _
      rw [cell_Touches.eq _ _ _ _ _ _ _ (by decide) (by decide) (by decide) (by decide), cell_Within.eq _ _ _ _ _ _ _ (by decide) (by decide) (by decide) (by decide), Option.bind_some, Option.bind_some]
      split
      · split
        · rfl
        · have := count_l0 (l := []) (by simp) 0 0 0 b0 b1 b2 b3 [] 0 0 k 0 rfl (by omega) (by omega)
          obtain ⟨k, rfl⟩ : ∃ k', k = k' + 2 := ⟨k - 2, by omega⟩
          rw [show k + 2 - 0 - 1 = k + 1 by omega, quad_count.l1, if_neg (by simp)] at this
          exact this
      · rfl
    · obtain ⟨hr, hx, hy⟩ := around_right hp
      have hbd := bd_of_right hr
      have hpos := List.length_pos_iff.2 h0
      have key : ∀ rs ks, quad_count.l0 k 0 rs (rs.length : Int) 0 (aroundP l).1 (aroundP l).2.1 (aroundP l).2.2 rs ks b0 b1 b2 b3 = some (cntP l b0 b1 b2 b3 : Int) →
          ((cell_Touches.f (aroundP l).1 (aroundP l).2.1 (aroundP l).2.2 b0 b1 b2 b3).bind fun t => if t = true then ((cell_Within.f (aroundP l).1 (aroundP l).2.1 (aroundP l).2.2 b0 b1 b2 b3).bind fun t2 => if t2 = true then ((some (l.length : Int)).bind fun t3 => some t3) else quad_count.l0 k 0 rs (rs.length : Int) 0 (aroundP l).1 (aroundP l).2.1 (aroundP l).2.2 rs ks b0 b1 b2 b3) else some 0) = some (cntP l b0 b1 b2 b3 : Int) := by
        intro rs ks hkey
        rw [cell_Touches.eq _ _ _ _ _ _ _ hx hbd.1 hy hbd.2, cell_Within.eq _ _ _ _ _ _ _ hx hbd.1 hy hbd.2, Option.bind_some, Option.bind_some]
        cases ht : touchB (aroundP l).1 (aroundP l).2.1 (aroundP l).2.2 b0 b1 b2 b3 with
        | false =>
          rw [if_neg (by simp)]
          have : l.filter (inR b0 b1 b2 b3) = [] := List.filter_eq_nil_iff.2 (fun r hm hi => by
            have := touch_of hr (around_has hp hm) hi
            rw [ht] at this; simp at this)
          unfold cntP
          rw [this]
          rfl
        | true =>
          rw [if_pos rfl]
          cases hw : withinB (aroundP l).1 (aroundP l).2.1 (aroundP l).2.2 b0 b1 b2 b3 with
          | true =>
            rw [if_pos rfl, Option.bind_some]
            have : l.filter (inR b0 b1 b2 b3) = l := List.filter_eq_self.2 (fun r hm => within_in hw (around_has hp hm))
            unfold cntP
            rw [this]
          | false => rw [if_neg (by simp)]; exact hkey
      rw [treeP, if_neg h0]
      by_cases h1 : l.length ≤ 4 ∨ levP l = 0
      · rw [if_pos h1]
        refine key l [] ?_
        have := count_l0 hl (aroundP l).1 (aroundP l).2.1 (aroundP l).2.2 b0 b1 b2 b3 [] l.length 0 k 0 (by omega) (by omega) (by omega)
        obtain ⟨q, hq⟩ : ∃ q, k - l.length - 1 = q + 1 := ⟨k - l.length - 2, by omega⟩
        rw [hq, quad_count.l1, if_neg (by simp), List.drop_zero, Nat.zero_add] at this
        exact this
      · rw [if_neg h1]
        have hv0 : levP l ≠ 0 := fun e => h1 (.inr e)
        refine key [] (kidsT (treeP n) (partsP l)) ?_
        have hk4 := real_le4 l
        have hkl : (kidsT (treeP n) (partsP l)).length = (realP l).length := by rw [kids_real, List.length_map]
        have := count_l0 (l := []) (by simp) (aroundP l).1 (aroundP l).2.1 (aroundP l).2.2 b0 b1 b2 b3 (kidsT (treeP n) (partsP l)) 0 0 k 0 rfl (by omega) (by omega)
        refine this.trans ?_
        have hih : ∀ (i : Nat) (h : i < (kidsT (treeP n) (partsP l)).length) (k' : Nat), 8 * n + 70 ≤ k' → quad_count.f k' (kidsT (treeP n) (partsP l))[i].f0.f0 (kidsT (treeP n) (partsP l))[i].f0.f1 (kidsT (treeP n) (partsP l))[i].f0.f2 (kidsT (treeP n) (partsP l))[i].f1 (kidsT (treeP n) (partsP l))[i].f2 b0 b1 b2 b3 = some (cntP ((realP l).getD i []) b0 b1 b2 b3 : Int) := by
          intro i h k' hk'
          have hi : i < (realP l).length := by rw [← hkl]; exact h
          have hpm : (realP l)[i] ∈ realP l := List.getElem_mem hi
          have hpv := real_lev hp hv0 hpm
          have hpl : (realP l)[i].length ≤ l.length := by obtain ⟨_, q, _, e⟩ := real_mem hpm; rw [e]; exact part_len _ _ _
          have hpa : ascS (realP l)[i] := by obtain ⟨_, q, _, e⟩ := real_mem hpm; rw [e]; exact asc_part ha _ _
          have h1 := count_tree b0 b1 b2 b3 n (realP l)[i] k' (fun r hr => hp r (real_sub hpm hr)) (by omega) hpa (by omega) hk'
          have hg : (kidsT (treeP n) (partsP l))[i] = mkNode (treeP n (realP l)[i]) := by simp only [kids_real, List.getElem_map]
          rw [hg]
          have hd : (realP l).getD i [] = (realP l)[i] := by simp [List.getD, hi]
          rw [hd]
          exact h1
        have hcb : ∀ i, cntP ((realP l).getD i []) b0 b1 b2 b3 ≤ 60 := by
          intro i
          refine Nat.le_trans (cntP_le _ _ _ _ _) ?_
          by_cases hi : i < (realP l).length
          · have hd : (realP l).getD i [] = (realP l)[i] := by simp [List.getD, hi]
            obtain ⟨_, q, _, e⟩ := real_mem (List.getElem_mem hi)
            rw [hd, e]
            exact Nat.le_trans (part_len _ _ _) hl
          · have hd : (realP l).getD i [] = [] := by simp [List.getD, hi]
            rw [hd]
            exact Nat.zero_le _
        have h2 := count_l1 (8 * n + 70) b0 b1 b2 b3 (kidsT (treeP n) (partsP l)) (by omega) (fun i => cntP ((realP l).getD i []) b0 b1 b2 b3) hcb hih (realP l).length 0 (k - 0 - 1) 0 (by omega) (by omega) (by omega)
        have h3 := sumFrom_list (fun p => cntP p b0 b1 b2 b3) [] (realP l) []
        rw [List.nil_append] at h3
        rw [show ([] : List (List Row)).length = 0 from rfl] at h3
        rw [h3, ← cnt_flat, cnt_perm (real_perm hp hv0), Nat.zero_add] at h2
        exact h2
theorem count_eq {l : List Row} (g : Good l) {k : Nat} (hk : 400 ≤ k) (b0 b1 b2 b3 : Int) : quad_Count.f k (T9 l).1 (T9 l).2.1 (T9 l).2.2.1 (T9 l).2.2.2.1 (T9 l).2.2.2.2 b0 b1 b2 b3 = some (((windowP l b0 b1 b2 b3).1.length : Int), (windowP l b0 b1 b2 b3).2) := by
  have hlen := g.len
  unfold quad_Count.f windowP
  rw [cell_RightBox.eq, Option.bind_some]
  cases boxB b0 b1 b2 b3 with
  | false => rfl
  | true =>
    rw [if_pos rfl, if_pos rfl, count_tree b0 b1 b2 b3 32 l k g.pt g.lev g.asc hlen (by omega)]
    rfl
end Go.Proofs.Ytojmfbdioaocpaa.P

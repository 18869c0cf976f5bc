/- The pure statement of QuadWhole. -/
import Derived.Test.YtojmfbdioaocpaaBuP
import Derived.Test.YtojmfbdioaocpaaPaP
import Derived.Test.YtojmfbdioaocpaaWalkQuadWhole
import Derived.Test.YtojmfbdioaocpaaPx14
set_option linter.unusedVariables false
set_option linter.unusedSimpArgs false
namespace Go.Proofs.Ytojmfbdioaocpaa.P
open Go.RowKit Go.Proofs.YtojmfbdioaocpaaOwn Go.Proofs.YtojmfbdioaocpaaW.PrintWords Go.Proofs.YtojmfbdioaocpaaW.PrintLast Go.Proofs.YtojmfbdioaocpaaW.PrintMore
/-- The loop over a leaf's rows. -/
theorem whole_l0 {l : List Row} (hl : l.length ≤ 60) (top : Bool) (x y v : Int) (hx : 0 ≤ x) (hx1 : x < 4294967296) (hy : 0 ≤ y) (hy1 : y < 4294967296) (hh : ∀ r ∈ l, hasB x y v r.f1 r.f2 = true) (ht : l ≠ [] ∨ top = true) (h4 : l.length ≤ 4 ∨ v ≤ 0) : ∀ (m j k : Nat), j + m = l.length → m < k →
    sphragislaw09_whole.l0 k top (j : Int) x y v l [] = some 1
  | m, j, 0, _, h => by omega
  | 0, j, k + 1, hj, _ => by
    have hlen : (j : Int) = l.length := by omega
    rw [sphragislaw09_whole.l0, if_neg (by omega)]
    by_cases h0 : (l.length : Int) = 0
    · rw [if_pos h0]
      have : l = [] := List.eq_nil_of_length_eq_zero (by omega)
      have ht2 : top = true := ht.resolve_left (fun h => h this)
      rw [if_pos ht2, if_neg (by omega)]
    · rw [if_neg h0]
      by_cases h5 : (l.length : Int) > 4
      · rw [if_pos h5, if_neg (by omega)]
      · rw [if_neg h5]
  | m + 1, j, k + 1, hj, hk => by
    have hjl : j < l.length := by omega
    rw [sphragislaw09_whole.l0, if_pos (by omega), if_pos (by omega), rd_at l j hjl, cell_Has.eq _ _ _ _ _ hx hx1 hy hy1, hh _ (List.getElem_mem hjl), Option.bind_some, if_pos rfl, wrap64_id (by omega) (by omega)]
    exact whole_l0 hl top x y v hx hx1 hy hy1 hh ht h4 m (j + 1) k (by omega) (by omega)
theorem rd_node9 (l : List S33) (j : Nat) (h : j < l.length) : rd_T33 l (j : Int) = l[j] := by unfold rd_T33; simp [List.getD, h]
theorem sz_dvd {n m : Nat} (h : n ≤ m) : sz (n : Int) ∣ sz (m : Int) := by
  rw [sz_nat, sz_nat]
  exact Int.natCast_dvd_natCast.2 (Nat.pow_dvd_pow 2 h)
theorem low_ge {q x : Int} {n m : Nat} (h : n ≤ m) (hq : q % sz (m : Int) = 0) (hqx : q ≤ x) (hx : 0 ≤ x) : q ≤ lowC x n := by
  have hd : sz (n : Int) ∣ q := Int.dvd_trans (sz_dvd h) (Int.dvd_of_emod_eq_zero hq)
  have e : q = q / sz n * sz n := (Int.ediv_mul_cancel hd).symm
  have := div_le_div hqx n
  have hs := sz_pos n
  unfold lowC
  rw [e]
  exact Int.mul_le_mul_of_nonneg_right this (by omega)
/-- Where the cell of a quarter's rows lies. -/
theorem where_kid {l : List Row} (hp : ∀ r ∈ l, ptR r) (hv : levP l ≠ 0) {i : Nat} (hi : i ≤ 3) (hne : partP (aroundP l) l i ≠ []) :
    cell_Where.f (aroundP l).1 (aroundP l).2.1 (aroundP l).2.2 (aroundP (partP (aroundP l) l i)).1 (aroundP (partP (aroundP l) l i)).2.1 = some ((i : Int), 0) := by
  obtain ⟨hr, hx, hy⟩ := around_right hp
  have hbd := bd_of_right hr
  have h31 := levP_le hp
  rw [cell_Where.eq _ _ _ _ _ hx hbd.1 hy hbd.2]
  congr 1
  refine where_of hx hy (around_isQ hp hv) i hi ?_
  have hlev := part_lev hp hv hi
  have hpp : ∀ r ∈ partP (aroundP l) l i, ptR r := fun r h => hp r (part_sub h)
  cases hq : partP (aroundP l) l i with
  | nil => exact absurd hq hne
  | cons r0 rs =>
    have hr0 : r0 ∈ partP (aroundP l) l i := by rw [hq]; exact List.mem_cons_self
    have h1 := (List.mem_filter.1 hr0).2
    rw [← where_iff hp hv (part_sub hr0) hi] at h1
    obtain ⟨g0, g1, g2, g3, g4⟩ := hasB_iff.1 h1
    obtain ⟨_, _, _, _, m1, m2⟩ := rightB_iff.1 g0
    have e : (aroundP l).2.2 - 1 = ((levP l - 1 : Nat) : Int) := by rw [around_lev]; omega
    rw [hq] at hlev hpp
    have hp0 := hpp r0 (List.mem_cons_self)
    have b1 := lowC_bd hp0.1 (levP (r0 :: rs))
    have b2 := lowC_bd hp0.2.2.1 (levP (r0 :: rs))
    show hasB _ _ _ (lowC r0.f1 (levP (r0 :: rs))) (lowC r0.f2 (levP (r0 :: rs))) = true
    refine hasB_iff.2 ⟨g0, ?_, ?_, ?_, ?_⟩
    · exact low_ge (m := levP l - 1) (by omega) (by rw [e] at m1; exact m1) g1 hp0.1
    · exact low_ge (m := levP l - 1) (by omega) (by rw [e] at m2; exact m2) g2 hp0.2.2.1
    · omega
    · omega
/-- The loop over kids. -/
theorem whole_l1 {l : List Row} (hp : ∀ r ∈ l, ptR r) (hv : levP l ≠ 0) (hl : l.length ≤ 60) (n : Nat) (W : Nat) (kids : List S33)
    (ih : ∀ (p : List Row) (k : Nat), p ∈ realP l → W ≤ k → ∃ m, sphragislaw09_whole.f k (treeP n p).1 (treeP n p).2.1 (treeP n p).2.2.1 (treeP n p).2.2.2.1 (treeP n p).2.2.2.2 false = some m ∧ 1 ≤ m ∧ m + 1 ≤ 2 * (p.length : Int))
    (hlev : ∀ p, p ∈ realP l → (treeP n p).1 = (aroundP p).1 ∧ (treeP n p).2.1 = (aroundP p).2.1 ∧ (treeP n p).2.2.1 = (levP p : Int)) : ∀ (ps : List (Nat × List Row)) (j k : Nat) (a last : Int), kids.drop j = ps.map (fun q => mkNode (treeP n q.2)) → (∀ q ∈ ps, q.1 ≤ 3 ∧ q.2 = partP (aroundP l) l q.1 ∧ q.2 ∈ realP l ∧ last < (q.1 : Int)) → ps.Pairwise (fun q q' => q.1 < q'.1) →
      j + ps.length = kids.length → kids.length ≤ 4 → W + ps.length + 1 ≤ k → 1 ≤ a → a + 2 * ((ps.map (fun q => q.2.length)).sum : Nat) ≤ 1000 →
      ∃ m, sphragislaw09_whole.l1 k a last (j : Int) (aroundP l).1 (aroundP l).2.1 (aroundP l).2.2 [] kids = some m ∧ a ≤ m ∧ m + ps.length ≤ a + 2 * ((ps.map (fun q => q.2.length)).sum : Nat)
  | ps, j, 0, a, last, _, _, _, _, _, hk, _, _ => by omega
  | [], j, k + 1, a, last, _, _, _, hj, _, _, _, _ => by
    refine ⟨a, ?_, by omega, by simp⟩
    rw [sphragislaw09_whole.l1, if_neg (by simp at hj; omega)]
  | q :: ps, j, k + 1, a, last, hd, hq, hpw, hj, h4, hk, ha, hb => by
    simp only [List.length_cons] at hj hk
    have hjl : j < kids.length := by omega
    obtain ⟨q1, q2, q3, q4⟩ := hq q (List.mem_cons_self)
    have hget : kids[j] = mkNode (treeP n q.2) := by
      have h1 := List.drop_eq_getElem_cons hjl
      rw [hd, List.map_cons] at h1
      exact (List.cons.inj h1).1.symm
    have hdrop : kids.drop (j + 1) = ps.map (fun q => mkNode (treeP n q.2)) := by
      have h1 := List.drop_eq_getElem_cons hjl
      rw [hd, List.map_cons] at h1
      exact (List.cons.inj h1).2.symm
    have hne : q.2 ≠ [] := (real_mem q3).1
    obtain ⟨e1, e2, e3⟩ := hlev q.2 q3
    obtain ⟨m, hm, hm1, hm2⟩ := ih q.2 k q3 (by omega)
    have hw : cell_Where.f (aroundP l).1 (aroundP l).2.1 (aroundP l).2.2 (treeP n q.2).1 (treeP n q.2).2.1 = some ((q.1 : Int), 0) := by
      rw [e1, e2, q2]
      exact where_kid hp hv q1 (by rw [← q2]; exact hne)
    have hlt := real_lev hp hv q3
    have hsum : ((q :: ps).map (fun q => q.2.length)).sum = q.2.length + (ps.map (fun q => q.2.length)).sum := by simp
    rw [hsum] at hb ⊢
    rw [sphragislaw09_whole.l1, if_pos (by omega), if_pos (by omega), rd_node9 kids j hjl, hget]
    show ∃ m, ((cell_Where.f (aroundP l).1 (aroundP l).2.1 (aroundP l).2.2 (treeP n q.2).1 (treeP n q.2).2.1).bind fun bt => if bt.2 = 0 then (if bt.1 ≤ last then (some (-5000)) else (if (treeP n q.2).2.2.1 ≥ (aroundP l).2.2 then (some (-5000)) else ((sphragislaw09_whole.f k (treeP n q.2).1 (treeP n q.2).2.1 (treeP n q.2).2.2.1 (treeP n q.2).2.2.2.1 (treeP n q.2).2.2.2.2 false).bind fun t => sphragislaw09_whole.l1 k (wrap64 (a + t)) bt.1 (wrap64 ((j : Int) + 1)) (aroundP l).1 (aroundP l).2.1 (aroundP l).2.2 [] kids))) else (some (-5000))) = some m ∧ _
    rw [hw, Option.bind_some, if_pos rfl, if_neg (by omega), if_neg (by rw [e3, around_lev]; omega), hm, Option.bind_some]
    obtain ⟨m2, h2, h3, h5⟩ := whole_l1 hp hv hl n W kids ih hlev ps (j + 1) k (a + m) (q.1 : Int) hdrop (fun s hs => ⟨(hq s (List.mem_cons_of_mem _ hs)).1, (hq s (List.mem_cons_of_mem _ hs)).2.1, (hq s (List.mem_cons_of_mem _ hs)).2.2.1, by have := (List.pairwise_cons.1 hpw).1 s hs; omega⟩) (List.pairwise_cons.1 hpw).2 (by omega) h4 (by omega) (by omega) (by omega)
    refine ⟨m2, ?_, by omega, by simp only [List.length_cons]; omega⟩
    rw [wrap64_id (by omega) (by omega), wrap64_id (by omega) (by omega)]
    exact h2
def idxP (l : List Row) : List (Nat × List Row) := [(0, partP (aroundP l) l 0), (1, partP (aroundP l) l 1), (2, partP (aroundP l) l 2), (3, partP (aroundP l) l 3)].filter fun q => !q.2.isEmpty
theorem idxP_snd (l : List Row) : (idxP l).map (·.2) = realP l := by
  unfold idxP realP partsP
  simp only [List.filter_cons, List.filter_nil]
  cases (partP (aroundP l) l 0).isEmpty <;> cases (partP (aroundP l) l 1).isEmpty <;> cases (partP (aroundP l) l 2).isEmpty <;> cases (partP (aroundP l) l 3).isEmpty <;> rfl
theorem idxP_pw (l : List Row) : (idxP l).Pairwise fun q q' => q.1 < q'.1 := List.Pairwise.sublist List.filter_sublist (by simp)
theorem idxP_mem {l : List Row} {q : Nat × List Row} (h : q ∈ idxP l) : q.1 ≤ 3 ∧ q.2 = partP (aroundP l) l q.1 ∧ q.2 ∈ realP l := by
  have h2 : q.2 ∈ realP l := by rw [← idxP_snd]; exact List.mem_map_of_mem h
  have h1 := (List.mem_filter.1 h).1
  simp only [List.mem_cons, List.not_mem_nil, or_false] at h1
  rcases h1 with rfl | rfl | rfl | rfl <;> exact ⟨by simp, rfl, h2⟩
theorem tree_head {n : Nat} {p : List Row} (h : p ≠ []) : (treeP (n + 1) p).1 = (aroundP p).1 ∧ (treeP (n + 1) p).2.1 = (aroundP p).2.1 ∧ (treeP (n + 1) p).2.2.1 = (levP p : Int) := by
  rw [treeP, if_neg h]
  split <;> exact ⟨rfl, rfl, around_lev⟩
theorem whole_tree : ∀ (n : Nat) (l : List Row) (k : Nat) (top : Bool), (∀ r ∈ l, ptR r) → levP l < n → l.length ≤ 60 → (l ≠ [] ∨ top = true) → 8 * n + 70 ≤ k →
    ∃ m, sphragislaw09_whole.f k (treeP n l).1 (treeP n l).2.1 (treeP n l).2.2.1 (treeP n l).2.2.2.1 (treeP n l).2.2.2.2 top = some m ∧ 1 ≤ m ∧ (l = [] → m = 1) ∧ (l ≠ [] → m + 1 ≤ 2 * (l.length : Int))
  | 0, l, k, top, _, h, _, _, _ => by omega
  | n + 1, l, k, top, hp, hv, hl, ht, hk => by
    obtain ⟨k, rfl⟩ : ∃ k', k = k' + 1 := ⟨k - 1, by omega⟩
    rw [treeP]
    by_cases h0 : l = []
    · rw [if_pos h0]
      subst h0
      refine ⟨1, ?_, by omega, fun _ => rfl, fun h => absurd rfl h⟩
      rw [sphragislaw09_whole.f]
      refine (if_pos (by simp)).trans ?_
      exact whole_l0 (by simp) top 0 0 0 (by decide) (by decide) (by decide) (by decide) (by simp) ht (.inl (by simp)) 0 0 k rfl (by omega)
    · rw [if_neg h0]
      have hpos := List.length_pos_iff.2 h0
      obtain ⟨hr, hx, hy⟩ := around_right hp
      have hbd := bd_of_right hr
      by_cases h1 : l.length ≤ 4 ∨ levP l = 0
      · rw [if_pos h1]
        refine ⟨1, ?_, by omega, fun _ => rfl, fun _ => by omega⟩
        rw [sphragislaw09_whole.f]
        refine (if_pos (by simp)).trans ?_
        exact whole_l0 hl top _ _ _ hx hbd.1 hy hbd.2 (fun r hr => around_has hp hr) ht (h1.imp id (fun h => by rw [around_lev]; omega)) l.length 0 k (by omega) (by omega)
      · rw [if_neg h1]
        have hv0 : levP l ≠ 0 := fun e => h1 (.inr e)
        have hk2 := real_ge2 hp hv0 h0
        have hk4 := real_le4 l
        have hkl : (kidsT (treeP n) (partsP l)).length = (realP l).length := by rw [kids_real, List.length_map]
        obtain ⟨n, rfl⟩ : ∃ n', n = n' + 1 := ⟨n - 1, by omega⟩
        obtain ⟨k, rfl⟩ : ∃ k', k = k' + 1 := ⟨k - 1, by omega⟩
        have hil : (idxP l).length = (realP l).length := by rw [← idxP_snd, List.length_map]
        have hsum : ((idxP l).map (fun q => q.2.length)).sum = l.length := by
          rw [show (idxP l).map (fun q => q.2.length) = ((idxP l).map (·.2)).map List.length by rw [List.map_map]; rfl, idxP_snd, sum_real hp hv0]
        obtain ⟨m, hm, h2, h3⟩ := whole_l1 hp hv0 hl (n + 1) (8 * (n + 1) + 70) (kidsT (treeP (n + 1)) (partsP l))
          (fun p k hpm hkk => by
            have hpl : p.length ≤ l.length := by obtain ⟨_, i, _, rfl⟩ := real_mem hpm; exact part_len _ _ _
            have hpv := real_lev hp hv0 hpm
            obtain ⟨m, a1, a2, _, a4⟩ := whole_tree (n + 1) p k false (fun r hr => hp r (real_sub hpm hr)) (by omega) (by omega) (.inl (real_mem hpm).1) hkk
            exact ⟨m, a1, a2, a4 (real_mem hpm).1⟩)
          (fun p hpm => tree_head (real_mem hpm).1) (idxP l) 0 k 1 (-1)
          (by rw [List.drop_zero, kids_real, ← idxP_snd, List.map_map]; rfl)
          (fun q hq => ⟨(idxP_mem hq).1, (idxP_mem hq).2.1, (idxP_mem hq).2.2, by omega⟩) (idxP_pw l) (by omega) (by omega) (by omega) (by omega) (by omega)
        refine ⟨m, ?_, by omega, fun h => absurd h h0, fun _ => by omega⟩
        rw [sphragislaw09_whole.f]
        show (if ((kidsT (treeP (n + 1)) (partsP l)).length : Int) = 0 then _ else (if ((([] : List Row).length : Nat) : Int) > 0 then _ else (if ((kidsT (treeP (n + 1)) (partsP l)).length : Int) < 2 then _ else sphragislaw09_whole.j1 (k + 1) (decide (((kidsT (treeP (n + 1)) (partsP l)).length : Int) > 4)) (aroundP l).1 (aroundP l).2.1 (aroundP l).2.2 [] (kidsT (treeP (n + 1)) (partsP l))))) = some m
        rw [if_neg (by omega), if_neg (by simp), if_neg (by omega), show decide (((kidsT (treeP (n + 1)) (partsP l)).length : Int) > 4) = false from decide_eq_false (by omega), sphragislaw09_whole.j1, if_neg (by simp)]
        exact hm
theorem pure_QuadWhole (l0 : List Row) (ok0 : ∀ s ∈ l0, wfRow s) (len0 : l0.length < 140737488355328) : sphragislaw09_QuadWhole.f 512 l0 = some true := by
  have hlen := few_len l0
  have hwf := few_wf ok0
  unfold sphragislaw09_QuadWhole.f
  rw [shown_at (by omega), Option.bind_some, few9, Option.bind_some]
  cases hr : rightL (l0.take 60) with
  | false => rw [build_bad hr hlen (by omega), Option.bind_some, if_pos ⟨rfl, hlen⟩, if_neg (by decide)]
  | true =>
    have g := good_of hwf hlen hr
    rw [build_good g hr (by omega), Option.bind_some, if_pos ⟨rfl, hlen⟩, if_pos rfl]
    obtain ⟨m, h1, h2, h3, h4⟩ := whole_tree 32 (l0.take 60) 512 true g.pt g.lev hlen (.inr rfl) (by omega)
    rw [h1, Option.bind_some]
    refine if_pos ⟨h2, ?_⟩
    by_cases h0 : l0.take 60 = []
    · exact .inl (by rw [h3 h0]; exact Int.le_refl _)
    · exact .inr (by have := h4 h0; omega)
end Go.Proofs.Ytojmfbdioaocpaa.P

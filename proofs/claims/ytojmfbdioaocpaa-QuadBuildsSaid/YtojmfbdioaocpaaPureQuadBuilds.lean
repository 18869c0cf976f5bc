/- The pure statement of QuadBuilds. -/
import Derived.Test.YtojmfbdioaocpaaBuP
import Derived.Test.YtojmfbdioaocpaaPaP
import Derived.Test.YtojmfbdioaocpaaSaP
import Derived.Test.YtojmfbdioaocpaaSqX
import Derived.Test.YtojmfbdioaocpaaTrD
import Derived.Test.YtojmfbdioaocpaaWalkQuadBuilds
import Derived.Test.YtojmfbdioaocpaaPx12
import Derived.Test.YtojmfbdioaocpaaPx13
set_option linter.unusedVariables false
set_option linter.unusedSimpArgs false
namespace Go.Proofs.Ytojmfbdioaocpaa.P
open Go.RowKit Go.Proofs.YtojmfbdioaocpaaOwn Go.Proofs.YtojmfbdioaocpaaW.PrintWords Go.Proofs.YtojmfbdioaocpaaW.PrintLast Go.Proofs.YtojmfbdioaocpaaW.PrintMore
theorem rd_nodeS (l : List S33) (j : Nat) (h : j < l.length) : rd_T33 l (j : Int) = l[j] := by unfold rd_T33; simp [List.getD, h]
theorem same_node_l0 (W : Nat) (x y v : Int) (rs : List Row) (kids : List S33) (h4 : kids.length ≤ 4)
    (ih : ∀ (i : Nat) (h : i < kids.length) (k : Nat), W ≤ k → sphragisref09_SameNode.f k kids[i].f0.f0 kids[i].f0.f1 kids[i].f0.f2 kids[i].f1 kids[i].f2 kids[i].f0.f0 kids[i].f0.f1 kids[i].f0.f2 kids[i].f1 kids[i].f2 = some true) : ∀ (m j k : Nat), j + m = kids.length → W + m + 1 ≤ k →
    sphragisref09_SameNode.l0 k (j : Int) x y v rs kids x y v rs kids = some true
  | m, j, 0, _, h => by omega
  | 0, j, k + 1, hj, _ => by
    rw [sphragisref09_SameNode.l0, if_neg (by omega)]
  | m + 1, j, k + 1, hj, hk => by
    have hjl : j < kids.length := by omega
    rw [sphragisref09_SameNode.l0, if_pos (by omega), if_pos (by omega), if_pos (by omega), rd_nodeS kids j hjl, ih j hjl k (by omega), Option.bind_some, if_pos rfl, show wrap64 ((j : Int) + 1) = ((j + 1 : Nat) : Int) by rw [wrap64_id (by omega) (by omega)]; omega]
    exact same_node_l0 W x y v rs kids h4 ih m (j + 1) k (by omega) (by omega)
theorem same_node_f (W : Nat) (x y v : Int) (rs : List Row) (kids : List S33) (h4 : kids.length ≤ 4) (hr : rs.length ≤ 60) (hW : 64 ≤ W)
    (ih : ∀ (i : Nat) (h : i < kids.length) (k : Nat), W ≤ k → sphragisref09_SameNode.f k kids[i].f0.f0 kids[i].f0.f1 kids[i].f0.f2 kids[i].f1 kids[i].f2 kids[i].f0.f0 kids[i].f0.f1 kids[i].f0.f2 kids[i].f1 kids[i].f2 = some true) {k : Nat} (hk : W + 8 ≤ k) :
    sphragisref09_SameNode.f k x y v rs kids x y v rs kids = some true := by
  obtain ⟨k, rfl⟩ : ∃ k', k = k' + 2 := ⟨k - 2, by omega⟩
  rw [sphragisref09_SameNode.f, same_eq (by omega) (by omega), Option.bind_some, if_neg (by simp), if_pos rfl, show ((kids.length : Int) != (kids.length : Int)) = false by simp, sphragisref09_SameNode.j0, if_neg (by simp)]
  exact same_node_l0 W x y v rs kids h4 ih kids.length 0 k (by omega) (by omega)
theorem same_tree : ∀ (n : Nat) (l : List Row) (k : Nat), (∀ r ∈ l, ptR r) → levP l < n → l.length ≤ 60 → 8 * n + 70 ≤ k →
    sphragisref09_SameNode.f k (treeP n l).1 (treeP n l).2.1 (treeP n l).2.2.1 (treeP n l).2.2.2.1 (treeP n l).2.2.2.2 (treeP n l).1 (treeP n l).2.1 (treeP n l).2.2.1 (treeP n l).2.2.2.1 (treeP n l).2.2.2.2 = some true
  | 0, l, k, _, h, _, _ => by omega
  | n + 1, l, k, hp, hv, hl, hk => by
    have leaf : ∀ (x y v : Int) (rs : List Row), rs.length ≤ 60 → sphragisref09_SameNode.f k x y v rs [] x y v rs [] = some true := fun x y v rs hrs => same_node_f 64 x y v rs [] (by simp) hrs (by omega) (fun i h => by simp at h) (by omega)
    rw [treeP]
    by_cases h0 : l = []
    · rw [if_pos h0]
      exact leaf 0 0 0 [] (by simp)
    · rw [if_neg h0]
      by_cases h1 : l.length ≤ 4 ∨ levP l = 0
      · rw [if_pos h1]
        exact leaf _ _ _ l hl
      · rw [if_neg h1]
        have hv0 : levP l ≠ 0 := fun e => h1 (.inr e)
        have hk4 := real_le4 l
        have hkl : (kidsT (treeP n) (partsP l)).length = (realP l).length := by rw [kids_real, List.length_map]
        refine same_node_f (8 * n + 70) _ _ _ [] (kidsT (treeP n) (partsP l)) (by omega) (by simp) (by omega) ?_ (by omega)
        intro i h k' hk'
        have hi : i < (realP l).length := by rw [← hkl]; exact h
        have hpm : (realP l)[i] ∈ realP l := List.getElem_mem hi
        have hpv := real_lev hp hv0 hpm
        have hpl : (realP l)[i].length ≤ l.length := by obtain ⟨_, q, _, e⟩ := real_mem hpm; rw [e]; exact part_len _ _ _
        have h1 := same_tree n (realP l)[i] k' (fun r hr => hp r (real_sub hpm hr)) (by omega) (by omega) hk'
        have hg : (kidsT (treeP n) (partsP l))[i] = mkNode (treeP n (realP l)[i]) := by simp only [kids_real, List.getElem_map]
        rw [hg]
        exact h1
theorem ref_build_good {l : List Row} (g : Good l) (hr : rightL l = true) {k : Nat} (hk : 9000 ≤ k) : sphragisref09_Build.f k l = some ((T9 l).1, (T9 l).2.1, (T9 l).2.2.1, (T9 l).2.2.2.1, (T9 l).2.2.2.2, 0) := by
  have := g.len
  have h1 : roundsT 32 l.length ≤ 9000 := by unfold roundsT; omega
  unfold sphragisref09_Build.f
  rw [ref_right l k (by omega) (by omega), hr, Option.bind_some, if_pos rfl, ref_tree_eq 32 l k g.pt g.lev (by omega) (by omega)]
  rfl
theorem ref_build_bad {l : List Row} (hr : rightL l = false) (hlen : l.length ≤ 60) {k : Nat} (hk : 128 ≤ k) : sphragisref09_Build.f k l = some (0, 0, 0, [], [], 80) := by
  unfold sphragisref09_Build.f
  rw [ref_right l k (by omega) (by omega), hr, Option.bind_some, if_neg (by simp)]
theorem pure_QuadBuilds (l0 : List Row) (s1 : Row) (ok0 : ∀ s ∈ l0, wfRow s) (len0 : l0.length < 140737488355328) (w1 : wfRow s1) : sphragislaw09_QuadBuilds.f 9000 l0 s1.f0 s1.f1 s1.f2 s1.f3 = some true := by
  have hlen := few_len l0
  have hwf := few_wf ok0
  unfold sphragislaw09_QuadBuilds.f
  rw [shown_at (by omega), Option.bind_some, few9, Option.bind_some]
  cases hr : rightL (l0.take 60) with
  | false =>
    rw [build_bad hr hlen (by omega), Option.bind_some, if_pos ⟨rfl, hlen⟩, ref_build_bad hr hlen (by omega), Option.bind_some, qrow, Option.bind_some, rrow, Option.bind_some, quad_right _ _ (by omega) (by omega), Option.bind_some, ref_right _ _ (by omega) (by omega), Option.bind_some]
    have := same_tree 32 [] 9000 (by simp) (by decide) (by simp) (by omega)
    rw [show treeP 32 [] = (0, 0, 0, [], []) from rfl] at this
    dsimp only at this ⊢
    rw [this, Option.bind_some]
    exact if_pos ⟨rfl, rfl, rfl, rfl⟩
  | true =>
    have g := good_of hwf hlen hr
    rw [build_good g hr (by omega), Option.bind_some, if_pos ⟨rfl, hlen⟩, ref_build_good g hr (by omega), Option.bind_some, qrow, Option.bind_some, rrow, Option.bind_some, quad_right _ _ (by omega) (by omega), Option.bind_some, ref_right _ _ (by omega) (by omega), Option.bind_some]
    have := same_tree 32 (l0.take 60) 9000 g.pt g.lev hlen (by omega)
    dsimp only
    rw [this, Option.bind_some]
    exact if_pos ⟨rfl, rfl, rfl, rfl⟩
end Go.Proofs.Ytojmfbdioaocpaa.P

/- The pure statement of QuadRings. -/
import Derived.Test.YtojmfbdioaocpaaRwP
import Derived.Test.YtojmfbdioaocpaaSqX
import Derived.Test.YtojmfbdioaocpaaNrP
import Derived.Test.YtojmfbdioaocpaaWalkQuadRings
set_option linter.unusedVariables false
set_option linter.unusedSimpArgs false
namespace Go.Proofs.Ytojmfbdioaocpaa.P
open Go.RowKit Go.Proofs.YtojmfbdioaocpaaOwn Go.Proofs.YtojmfbdioaocpaaW.PrintWords Go.Proofs.YtojmfbdioaocpaaW.PrintLast Go.Proofs.YtojmfbdioaocpaaW.PrintMore
/-- The rows no farther than the nth in order are more than n; those that are nearer, no more than n. -/
theorem rings_of {D : Row → Int} {l S : List Row} (hp : S.Perm l) (hs : S.Pairwise fun a b => D a ≤ D b) {n : Nat} (hn : n < S.length) :
    n + 1 ≤ (l.filter fun r => decide (D r ≤ D S[n])).length ∧ (l.filter fun r => decide (D r ≤ D S[n] - 1)).length ≤ n := by
  have h1 := (hp.filter fun r => decide (D r ≤ D S[n])).length_eq
  have h2 := (hp.filter fun r => decide (D r ≤ D S[n] - 1)).length_eq
  rw [← h1, ← h2]
  have hle : ∀ i (hi : i < S.length), i ≤ n → D S[i] ≤ D S[n] := fun i hi hin => by
    rcases Nat.lt_or_eq_of_le hin with e | e
    · exact List.pairwise_iff_getElem.1 hs i n hi hn e
    · subst e; exact Int.le_refl _
  have hge : ∀ i (hi : i < S.length), n ≤ i → D S[n] ≤ D S[i] := fun i hi hin => by
    rcases Nat.lt_or_eq_of_le hin with e | e
    · exact List.pairwise_iff_getElem.1 hs n i hn hi e
    · subst e; exact Int.le_refl _
  constructor
  · have hsub : (S.take (n + 1)).filter (fun r => decide (D r ≤ D S[n])) = S.take (n + 1) := by
      refine List.filter_eq_self.2 (fun r hr => decide_eq_true ?_)
      obtain ⟨i, hi, rfl⟩ := List.getElem_of_mem hr
      rw [List.getElem_take]
      rw [List.length_take] at hi
      exact hle i (by omega) (by omega)
    have h3 : ((S.take (n + 1)).filter (fun r => decide (D r ≤ D S[n]))).length ≤ (S.filter (fun r => decide (D r ≤ D S[n]))).length := (List.Sublist.filter _ (List.take_sublist _ _)).length_le
    rw [hsub, List.length_take] at h3
    omega
  · generalize D S[n] = dn at hge ⊢
    have e : S.filter (fun r => decide (D r ≤ dn - 1)) = (S.take n).filter (fun r => decide (D r ≤ dn - 1)) := by
      have hd : (S.drop n).filter (fun r => decide (D r ≤ dn - 1)) = [] := by
        refine List.filter_eq_nil_iff.2 (fun r hr => ?_)
        obtain ⟨i, hi, rfl⟩ := List.getElem_of_mem hr
        rw [List.getElem_drop]
        rw [List.length_drop] at hi
        have := hge (n + i) (by omega) (by omega)
        simp only [decide_eq_true_eq]
        omega
      conv => lhs; rw [← List.take_append_drop n S, List.filter_append, hd, List.append_nil]
    rw [e]
    have := List.length_filter_le (fun r => decide (D r ≤ dn - 1)) (S.take n)
    rw [List.length_take] at this
    omega
theorem pure_QuadRings (l0 : List Row) (a1 a2 a3 : Int) (ok0 : ∀ s ∈ l0, wfRow s) (len0 : l0.length < 140737488355328) (b1 : 0 ≤ a1 ∧ a1 ≤ 4294967295) (b2 : 0 ≤ a2 ∧ a2 ≤ 4294967295) (b3 : -9223372036854775808 ≤ a3 ∧ a3 ≤ 9223372036854775807) : sphragislaw09_QuadRings.f 512 l0 a1 a2 a3 = some true := by
  have hlen := few_len l0
  have hwf := few_wf ok0
  unfold sphragislaw09_QuadRings.f
  rw [shown_at (by omega), Option.bind_some, few9, Option.bind_some]
  cases hr : rightL (l0.take 60) with
  | false => rw [build_bad hr hlen (by omega), Option.bind_some, if_pos ⟨rfl, hlen⟩, if_neg (by simp)]
  | true =>
    have g := good_of hwf hlen hr
    rw [build_good g hr (by omega), Option.bind_some, if_pos ⟨rfl, hlen⟩]
    dsimp only
    by_cases hc : (0 : Int) = 0 ∧ 1 ≤ a3 ∧ a1 < 2147483648 ∧ a2 < 2147483648
    case neg => rw [if_neg hc]
    rw [if_pos hc]
    obtain ⟨_, h3, g1, g2⟩ := hc
    rw [near_eq g _ b1.1 b2.1, Option.bind_some, size_eq9 g, Option.bind_some]
    have hS := (sortD_perm a1 a2 (l0.take 60)).length_eq
    have hml := fun r => (sortD_perm a1 a2 (l0.take 60)).mem_iff (a := r)
    have hsD : (sortD a1 a2 (l0.take 60)).Pairwise fun a b => sqZ a1 a2 a.f1 a.f2 ≤ sqZ a1 a2 b.f1 b.f2 := (sortD_le a1 a2 (l0.take 60)).imp (fun h => by unfold keyD at h; simp only [decide_eq_true_eq] at h; omega)
    have hring := fun (n : Nat) (hn : n < (sortD a1 a2 (l0.take 60)).length) => rings_of (sortD_perm a1 a2 (l0.take 60)) hsD hn
    have hpt := g.pt
    have hround := fun (a3 : Int) => round_eq g 512 (a3 := a3) b1.1 b2.1
    unfold nearP
    rw [if_neg (show ¬ (a1 ≥ 2147483648 ∨ a2 ≥ 2147483648 ∨ a3 < 0) by omega)]
    unfold roundP at hround
    simp only [if_neg (show ¬ (a1 ≥ 2147483648 ∨ a2 ≥ 2147483648) by omega)] at hround
    generalize sortD a1 a2 (l0.take 60) = S at *
    clear hwf ok0 len0
    generalize l0.take 60 = l at *
    have hmin : ((S.take a3.toNat).length : Int) = mn a3 (l.length : Int) := by rw [List.length_take, hS]; unfold mn; split <;> omega
    dsimp only
    rw [if_pos ⟨rfl, hmin⟩]
    by_cases h0 : S.take a3.toNat = []
    · rw [if_pos h0]
    · rw [if_neg h0]
      have hpos := List.length_pos_iff.2 h0
      obtain ⟨n, hn⟩ : ∃ n : Nat, (S.take a3.toNat).length = n + 1 := ⟨(S.take a3.toNat).length - 1, by omega⟩
      have hnS : n < S.length := by rw [List.length_take] at hn; omega
      have hrd : rd_T26 (S.take a3.toNat) (((S.take a3.toNat).length : Int) - 1) = S[n] := by
        rw [hn, show (((n + 1 : Nat) : Int) - 1) = (n : Int) by omega, rd_at (S.take a3.toNat) n (by omega), List.getElem_take]
      rw [hrd]
      have hm : S[n] ∈ l := (hml _).1 (List.getElem_mem hnS)
      have hp := hpt _ hm
      have hp' := hp
      obtain ⟨c1, c2, c3, c4⟩ := hp'
      obtain ⟨r1, r2⟩ := hring n hnS
      rw [cell_Far.eq 511 _ _ _ _ _ c1 (by omega) c3 (by omega) b1.1 b2.1]
      have hfr : farR S[n].f1 S[n].f2 0 a1 a2 = (sqZ a1 a2 S[n].f1 S[n].f2, 0) := by
        unfold farR
        rw [if_pos ⟨right_pt hp, g1, g2⟩, far_pt]
      rw [hfr, Option.bind_some]
      have hq0 := sqZ_pos a1 a2 S[n].f1 S[n].f2
      have hq1 := sqZ_lt' b1.1 b2.1 g1 g2 c1 c2 c3 c4
      generalize hz : sqZ a1 a2 S[n].f1 S[n].f2 = z at *
      dsimp only
      rw [hround z, Option.bind_some]
      have e1 : (l.filter (nearB a1 a2 z)).length = (l.filter fun r => decide (sqZ a1 a2 r.f1 r.f2 ≤ z)).length := rfl
      have e2 : (l.filter (nearB a1 a2 (z - 1))).length = (l.filter fun r => decide (sqZ a1 a2 r.f1 r.f2 ≤ z - 1)).length := rfl
      dsimp only
      rw [if_pos ⟨rfl, rfl, by rw [e1, hn]; exact r1, hq0, hq1⟩]
      by_cases hz0 : z = 0
      · rw [if_pos hz0]
      · rw [if_neg hz0, hround (z - 1), Option.bind_some]
        dsimp only
        rw [if_pos ⟨rfl, by rw [e2, hn]; omega⟩]
end Go.Proofs.Ytojmfbdioaocpaa.P

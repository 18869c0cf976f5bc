/- The pure statement of FindQuads. -/
import Derived.Test.YtoimgijhekahhaaWalkFindQuads
namespace Go.Proofs.Ytoimgijhekahhaa.P
open Go.RowKit Go.Proofs.YtoimgijhekahhaaOwn Go.Proofs.YtoimgijhekahhaaW.PrintWords Go.Proofs.YtoimgijhekahhaaW.PrintLast Go.Proofs.YtoimgijhekahhaaW.PrintMore
set_option linter.unusedVariables false
set_option linter.unusedSimpArgs false
theorem whole_len {l : List Row} {q : Q11} : (fullP l q).length ≤ (wholeP l q).length := by
  unfold fullP leftQ
  split
  · exact List.length_filter_le _ _
  · exact Nat.le_refl _
theorem wantR_eq {l : List Row} (g : Good l) (k : Nat) {q : Q11} (wq : wfQ q) (h : checkP q = 0) : wantR k (T9 l) l (l.length : Int) q = some (wholeP l q) := by
  obtain ⟨a, b, c, d, e⟩ := check_iff.1 h
  unfold wantR wholeP
  by_cases h1 : q.kind = 1
  · rw [if_pos h1, if_pos h1, window_eq g]
    unfold windowP
    rw [if_pos (d h1)]
    rfl
  rw [if_neg h1, if_neg h1]
  by_cases h2 : q.kind = 2
  · obtain ⟨gx, gy⟩ := e (.inl h2)
    rw [if_pos h2, if_pos h2, round_eq g k wq.x.1 wq.y.1]
    unfold roundP
    rw [if_neg (by omega)]
    rfl
  rw [if_neg h2, if_neg h2]
  by_cases h3 : q.kind = 3
  · obtain ⟨gx, gy⟩ := e (.inr h3)
    rw [if_pos h3, if_pos h3, near_eq g k wq.x.1 wq.y.1]
    unfold nearP
    rw [if_neg (by omega)]
    show some ((sortD q.x q.y l).take ((l.length : Int)).toNat) = _
    rw [Int.toNat_natCast, List.take_of_length_le (Nat.le_of_eq (sortD_perm _ _ _).length_eq)]
  rw [if_neg h3, if_neg h3]
theorem pure_FindQuads (l0 : List Row) (q : Q11) (wf : ∀ s ∈ l0, wfRow s) (len : l0.length < 140737488355328) (wq : wfQ q) : true = true ∧ FindQuadsC 512 (l0.take 60) q := by
  refine ⟨rfl, ?_⟩
  have hl := few_len l0
  have wl := few_wf wf
  generalize l0.take 60 = l at hl wl
  have hA := AskF_eq wl hl (show 128 ≤ 512 by decide) wq
  cases hr : rightL l with
  | false =>
    refine ⟨(0, 0, 0, [], []), 80, [], false, 80, build_bad hr hl (by decide), ?_, .inl ⟨.inl (by decide), .inr rfl⟩⟩
    rw [hA]
    unfold askP
    rw [if_neg (by rw [hr]; simp)]
  | true =>
    have g := good_of wl hl hr
    by_cases hc : checkP q = 0
    · rw [ask_good hr wq hc] at hA
      refine ⟨T9 l, 0, _, _, 0, build_good g hr (by decide), hA, .inr ⟨rfl, rfl, l, wholeP l q, rows_eq9 g 512, wantR_eq g 512 wq hc, ?_⟩⟩
      have hk0 := check_k0 hc
      have hfl := full_len (l := l) (q := q)
      have hwl := whole_len (l := l) (q := q)
      refine ⟨by rw [List.length_take]; omega, fun hn => ?_⟩
      have hfw : fullP l q = wholeP l q := by unfold fullP leftQ; rw [if_neg hn]
      rw [← hfw]
      generalize fullP l q = F at hfl
      have ht : F.take (F.take q.k.toNat).length = F.take q.k.toNat := by
        rw [List.length_take]
        rcases Nat.le_total q.k.toNat F.length with h | h
        · rw [Nat.min_eq_left h]
        · rw [Nat.min_eq_right h, List.take_length, List.take_of_length_le h]
      refine ⟨?_, ?_, ?_⟩
      · rw [ht]
        exact same_eq (by rw [List.length_take]; omega) (by rw [List.length_take]; omega)
      · rw [List.length_take]
        exact decide_eq_decide.2 (by omega)
      · rw [List.length_take]
        split <;> omega
    · refine ⟨T9 l, 0, [], false, checkP q, build_good g hr (by decide), ?_, .inl ⟨.inr hc, .inl rfl⟩⟩
      rw [hA]
      unfold askP
      rw [if_pos hr, if_neg hc]
end Go.Proofs.Ytoimgijhekahhaa.P

/- The pure statement of FindPieces. -/
import Derived.Test.YtoimgijhekahhaaWalkFindPieces
namespace Go.Proofs.Ytoimgijhekahhaa.P
open Go.RowKit Go.Proofs.YtoimgijhekahhaaOwn Go.Proofs.YtoimgijhekahhaaW.PrintWords Go.Proofs.YtoimgijhekahhaaW.PrintLast Go.Proofs.YtoimgijhekahhaaW.PrintMore
set_option linter.unusedVariables false
set_option linter.unusedSimpArgs false
theorem allQ_ok {l : List Row} {q : Q11} {most : Int} (h : (allQ l q most).2 = 0) : q.kind ≠ 3 ∧ 0 ≤ most ∧ rightL l = true ∧ checkP q = 0 := by
  unfold allQ at h
  by_cases hb : q.kind = 3 ∨ most < 0
  · rw [if_pos hb] at h; exact absurd h (by decide)
  · rw [if_neg hb] at h
    cases hr : rightL l with
    | false => rw [hr, if_neg (by simp)] at h; exact absurd h (by decide)
    | true =>
      rw [hr, if_pos rfl] at h
      by_cases hc : checkP q = 0
      · exact ⟨fun e => hb (.inl e), Int.not_lt.1 (fun e => hb (.inr e)), rfl, hc⟩
      · rw [if_neg hc] at h; exact absurd h hc
theorem allQ_eq {l : List Row} {q : Q11} {most : Int} (h3 : q.kind ≠ 3) (hm : 0 ≤ most) (hr : rightL l = true) (hc : checkP q = 0) : allQ l q most = ((fullP l q).take (q.k.toNat * most.toNat), 0) := by
  unfold allQ
  rw [if_neg (by omega), if_pos hr, if_pos hc]
theorem pure_FindPieces (l0 : List Row) (q : Q11) (m : Int) (wf : ∀ s ∈ l0, wfRow s) (len : l0.length < 140737488355328) (wq : wfQ q) (hm : -9223372036854775808 ≤ m ∧ m ≤ 9223372036854775807) : true = true ∧ 128 ≤ 512 ∧ (∀ s ∈ l0.take 60, wfRow s) ∧ wfQ q ∧ piecesC 512 (l0.take 60) q m := by
  refine ⟨rfl, by decide, few_wf wf, wq, ?_⟩
  have hl := few_len l0
  generalize l0.take 60 = l at hl
  unfold piecesC
  by_cases hc : (allQ l q 100).2 ≠ 0 ∨ m < 1 ∨ 64 < m
  · exact .inl hc
  refine .inr ⟨⟨wq.kind, wq.b0, wq.b1, wq.b2, wq.b3, wq.x, wq.y, wq.sq, hm, wq.after⟩, ?_⟩
  obtain ⟨h3, _, hr, hq⟩ := allQ_ok (Decidable.byContradiction fun h => hc (.inl h))
  have hci := check_iff.1 hq
  have hkq := hci.2.1
  rw [if_neg h3] at hkq
  have hq2 : checkP { q with k := m } = 0 := by
    obtain ⟨a, b, c, d, e⟩ := hci
    refine check_iff.2 ⟨a, ?_, by show m ≤ 64; omega, d, e⟩
    show if q.kind = 3 then 0 ≤ m else 1 ≤ m
    rw [if_neg h3]
    omega
  have hfl := full_len (l := l) (q := q)
  rw [allQ_eq h3 (by decide) hr hq, allQ_eq (q := { q with k := m }) h3 (by decide) hr hq2]
  refine ⟨rfl, ?_⟩
  have hff : fullP l { q with k := m } = fullP l q := rfl
  rw [hff]
  dsimp only
  generalize fullP l q = F at hfl
  have e100 : ((100 : Int)).toNat = 100 := rfl
  rw [e100, List.take_of_length_le (by omega), List.take_of_length_le (by omega)]
  exact same_eq (by omega) (by omega)
end Go.Proofs.Ytoimgijhekahhaa.P

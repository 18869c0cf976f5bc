/- The pure statement of FindLess. -/
import Derived.Test.YtoimgijhekahhaaWalkFindLess
namespace Go.Proofs.Ytoimgijhekahhaa.P
open Go.RowKit Go.Proofs.YtoimgijhekahhaaOwn Go.Proofs.YtoimgijhekahhaaW.PrintWords Go.Proofs.YtoimgijhekahhaaW.PrintLast Go.Proofs.YtoimgijhekahhaaW.PrintMore
set_option linter.unusedVariables false
set_option linter.unusedSimpArgs false
theorem wfQ.setK {q : Q11} (w : wfQ q) {m : Int} (h : -9223372036854775808 ≤ m ∧ m ≤ 9223372036854775807) : wfQ { q with k := m } := ⟨w.kind, w.b0, w.b1, w.b2, w.b3, w.x, w.y, w.sq, h, w.after⟩
theorem pure_FindLess (l0 : List Row) (q : Q11) (m : Int) (wf : ∀ s ∈ l0, wfRow s) (len : l0.length < 140737488355328) (wq : wfQ q) (hm : -9223372036854775808 ≤ m ∧ m ≤ 9223372036854775807) : sphragislaw11_FindLess.f 512 l0 q m = some true := by
  have hl := few_len l0
  have wl := few_wf wf
  unfold sphragislaw11_FindLess.f
  generalize l0.take 60 = l at hl wl
  rw [AskF_eq wl hl (by omega) wq, Option.bind_some]
  by_cases hc : (askP l q).2.2 ≠ 0 ∨ m < q.k ∨ 64 < m
  · rw [if_pos hc]
  rw [if_neg hc]
  obtain ⟨hr, hq⟩ := ask_ok (Decidable.byContradiction fun h => hc (.inl h))
  have hqm := check_mono hq (show q.k ≤ m by omega) (by omega)
  have hk0 := check_k0 hq
  rw [AskF_eq wl hl (by omega) (wq.setK hm), Option.bind_some, ask_good hr wq hq, ask_good hr (wq.setK hm) hqm]
  have hff : fullP l { q with k := m } = fullP l q := rfl
  have hfl := full_len (l := l) (q := q)
  rw [hff]
  generalize fullP l q = F at hfl
  dsimp only
  have ht : (F.take m.toNat).take (F.take q.k.toNat).length = F.take q.k.toNat := by
    rw [List.take_take, List.length_take, show min (min q.k.toNat F.length) m.toNat = min q.k.toNat F.length by omega]
    rcases Nat.le_total q.k.toNat F.length with h | h
    · rw [Nat.min_eq_left h]
    · rw [Nat.min_eq_right h, List.take_length, List.take_of_length_le h]
  rw [ht, same_eq (by rw [List.length_take]; omega) (by rw [List.length_take]; omega), Option.bind_some]
  refine if_pos ⟨rfl, ?_, rfl, ?_⟩
  · rw [List.length_take, List.length_take]; omega
  · by_cases hx : q.k < (F.length : Int)
    · exact .inl (decide_eq_true hx)
    · refine .inr ?_
      rw [List.length_take, List.length_take]; omega
end Go.Proofs.Ytoimgijhekahhaa.P

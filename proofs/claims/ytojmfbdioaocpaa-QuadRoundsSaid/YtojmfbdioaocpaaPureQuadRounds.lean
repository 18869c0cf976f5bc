/- The pure statement of QuadRounds. -/
import Derived.Test.YtojmfbdioaocpaaBuP
import Derived.Test.YtojmfbdioaocpaaTrE
import Derived.Test.YtojmfbdioaocpaaSaP
import Derived.Test.YtojmfbdioaocpaaSqX
import Derived.Test.YtojmfbdioaocpaaRdP
import Derived.Test.YtojmfbdioaocpaaWalkQuadRounds
set_option linter.unusedVariables false
set_option linter.unusedSimpArgs false
namespace Go.Proofs.Ytojmfbdioaocpaa.P
open Go.RowKit Go.Proofs.YtojmfbdioaocpaaOwn Go.Proofs.YtojmfbdioaocpaaW.PrintWords Go.Proofs.YtojmfbdioaocpaaW.PrintLast Go.Proofs.YtojmfbdioaocpaaW.PrintMore
theorem pure_QuadRounds (l0 : List Row) (a1 a2 a3 : Int) (ok0 : ∀ s ∈ l0, wfRow s) (len0 : l0.length < 140737488355328) (b1 : 0 ≤ a1 ∧ a1 ≤ 4294967295) (b2 : 0 ≤ a2 ∧ a2 ≤ 4294967295) (b3 : 0 ≤ a3 ∧ a3 ≤ 18446744073709551615) : sphragislaw09_QuadRounds.f 512 l0 a1 a2 a3 = some true := by
  have hlen := few_len l0
  have hwf := few_wf ok0
  unfold sphragislaw09_QuadRounds.f
  rw [shown_at (by omega), Option.bind_some, few9, Option.bind_some]
  cases hr : rightL (l0.take 60) with
  | false => rw [build_bad hr hlen (by omega), Option.bind_some, if_pos ⟨rfl, hlen⟩, if_neg (by decide)]
  | true =>
    have g := good_of hwf hlen hr
    rw [build_good g hr (by omega), Option.bind_some, if_pos ⟨rfl, hlen⟩, if_pos rfl]
    dsimp only
    rw [round_eq g _ b1.1 b2.1, Option.bind_some, ref_round_eq g.pt (by omega) b1.1 b2.1 b1.2 b2.2 (by omega), Option.bind_some]
    have hl : (roundP (l0.take 60) a1 a2 a3).1.length ≤ 60 := by
      unfold roundP
      split
      · exact Nat.zero_le _
      · exact Nat.le_trans (List.length_filter_le _ _) hlen
    rw [same_eq (by omega) (by omega), Option.bind_some]
    exact if_pos ⟨rfl, rfl⟩
end Go.Proofs.Ytojmfbdioaocpaa.P

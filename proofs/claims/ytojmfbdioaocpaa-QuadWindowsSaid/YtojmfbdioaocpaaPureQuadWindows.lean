/- The pure statement of QuadWindows. -/
import Derived.Test.YtojmfbdioaocpaaByP
import Derived.Test.YtojmfbdioaocpaaCtP
import Derived.Test.YtojmfbdioaocpaaSaP
import Derived.Test.YtojmfbdioaocpaaWalkQuadWindows
set_option linter.unusedVariables false
set_option linter.unusedSimpArgs false
namespace Go.Proofs.Ytojmfbdioaocpaa.P
open Go.RowKit Go.Proofs.YtojmfbdioaocpaaOwn Go.Proofs.YtojmfbdioaocpaaW.PrintWords Go.Proofs.YtojmfbdioaocpaaW.PrintLast Go.Proofs.YtojmfbdioaocpaaW.PrintMore
theorem pure_QuadWindows (l0 : List Row) (b0 b1 b2 b3 : Int) (ok0 : ∀ s ∈ l0, wfRow s) (len0 : l0.length < 140737488355328) (c0 : 0 ≤ b0 ∧ b0 ≤ 4294967295) (c1 : 0 ≤ b1 ∧ b1 ≤ 4294967295) (c2 : 0 ≤ b2 ∧ b2 ≤ 4294967295) (c3 : 0 ≤ b3 ∧ b3 ≤ 4294967295) : sphragislaw09_QuadWindows.f 512 l0 b0 b1 b2 b3 = some true := by
  have hlen := few_len l0
  have hwf := few_wf ok0
  unfold sphragislaw09_QuadWindows.f
  rw [shown_at (by omega), Option.bind_some, few9, Option.bind_some]
  cases hr : rightL (l0.take 60) with
  | false => rw [build_bad hr hlen (by omega), Option.bind_some, if_pos ⟨rfl, hlen⟩, if_neg (by decide)]
  | true =>
    have g := good_of hwf hlen hr
    rw [build_good g hr (by omega), Option.bind_some, if_pos ⟨rfl, hlen⟩, if_pos rfl]
    dsimp only
    rw [window_eq g, Option.bind_some, ref_window_eq (by omega) _ _ _ _ (by omega), Option.bind_some, count_eq g (by omega), Option.bind_some]
    have hl : (windowP (l0.take 60) b0 b1 b2 b3).1.length ≤ 60 := by
      unfold windowP
      split
      · exact Nat.le_trans (List.length_filter_le _ _) hlen
      · exact Nat.zero_le _
    rw [same_eq (by omega) (by omega), Option.bind_some]
    exact if_pos ⟨rfl, rfl, rfl, rfl⟩
end Go.Proofs.Ytojmfbdioaocpaa.P

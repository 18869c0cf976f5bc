/- The pure statement of QuadNears. -/
import Derived.Test.YtojmfbdioaocpaaBuP
import Derived.Test.YtojmfbdioaocpaaTrE
import Derived.Test.YtojmfbdioaocpaaSaP
import Derived.Test.YtojmfbdioaocpaaSqX
import Derived.Test.YtojmfbdioaocpaaNrP
import Derived.Test.YtojmfbdioaocpaaWalkQuadNears
set_option linter.unusedVariables false
set_option linter.unusedSimpArgs false
namespace Go.Proofs.Ytojmfbdioaocpaa.P
open Go.RowKit Go.Proofs.YtojmfbdioaocpaaOwn Go.Proofs.YtojmfbdioaocpaaW.PrintWords Go.Proofs.YtojmfbdioaocpaaW.PrintLast Go.Proofs.YtojmfbdioaocpaaW.PrintMore
theorem nearP_len (l : List Row) (a1 a2 a3 : Int) : (nearP l a1 a2 a3).1.length ≤ l.length := by
  unfold nearP
  split
  · exact Nat.zero_le _
  · have := (sortD_perm a1 a2 l).length_eq
    simp only [List.length_take]
    omega
theorem pure_QuadNears (l0 : List Row) (a1 a2 a3 : Int) (ok0 : ∀ s ∈ l0, wfRow s) (len0 : l0.length < 140737488355328) (b1 : 0 ≤ a1 ∧ a1 ≤ 4294967295) (b2 : 0 ≤ a2 ∧ a2 ≤ 4294967295) (b3 : -9223372036854775808 ≤ a3 ∧ a3 ≤ 9223372036854775807) : sphragislaw09_QuadNears.f 9000 l0 a1 a2 a3 = some true := by
  have hlen := few_len l0
  have hwf := few_wf ok0
  unfold sphragislaw09_QuadNears.f
  rw [shown_at (by omega), Option.bind_some, few9, Option.bind_some]
  cases hr : rightL (l0.take 60) with
  | false => rw [build_bad hr hlen (by omega), Option.bind_some, if_pos ⟨rfl, hlen⟩, if_neg (by decide)]
  | true =>
    have g := good_of hwf hlen hr
    rw [build_good g hr (by omega), Option.bind_some, if_pos ⟨rfl, hlen⟩, if_pos rfl]
    dsimp only
    rw [near_eq g _ b1.1 b2.1, Option.bind_some, ref_near_eq g.pt g.asc hlen b1.1 b2.1 (by omega), Option.bind_some]
    have hl := nearP_len (l0.take 60) a1 a2 a3
    rw [same_eq (by omega) (by omega), Option.bind_some]
    exact if_pos ⟨rfl, rfl⟩
end Go.Proofs.Ytojmfbdioaocpaa.P

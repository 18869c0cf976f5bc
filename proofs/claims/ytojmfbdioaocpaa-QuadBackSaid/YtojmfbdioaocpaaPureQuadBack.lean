/- The pure statement of QuadBack. -/
import Derived.Test.YtojmfbdioaocpaaBuP
import Derived.Test.YtojmfbdioaocpaaTrE
import Derived.Test.YtojmfbdioaocpaaSaP
import Derived.Test.YtojmfbdioaocpaaWalkQuadBack
import Derived.Test.YtojmfbdioaocpaaPx16
set_option linter.unusedVariables false
set_option linter.unusedSimpArgs false
namespace Go.Proofs.Ytojmfbdioaocpaa.P
open Go.RowKit Go.Proofs.YtojmfbdioaocpaaOwn Go.Proofs.YtojmfbdioaocpaaW.PrintWords Go.Proofs.YtojmfbdioaocpaaW.PrintLast Go.Proofs.YtojmfbdioaocpaaW.PrintMore
theorem rows_eq {l : List Row} (g : Good l) (k : Nat) : quad_Rows.f k (T9 l).1 (T9 l).2.1 (T9 l).2.2.1 (T9 l).2.2.2.1 (T9 l).2.2.2.2 = some l := by
  have hlen := g.len
  obtain ⟨h1, h2⟩ := sort_tree (ov := fun _ => false) (is := fun _ => true) (fun _ _ _ _ _ _ _ _ _ h => by simp at h) g.pt g.lev g.asc (by omega)
  unfold quad_Rows.f
  rw [show (⟨⟨(T9 l).1, (T9 l).2.1, (T9 l).2.2.1⟩, (T9 l).2.2.2.1, (T9 l).2.2.2.2⟩ : S33) = mkNode (treeP 32 l) from rfl, if_pos h1, h2]
  congr 1
  exact List.filter_eq_self.2 (fun _ _ => rfl)
theorem pure_QuadBack (l0 : List Row) (ok0 : ∀ s ∈ l0, wfRow s) (len0 : l0.length < 140737488355328) : sphragislaw09_QuadBack.f 512 l0 = some true := by
  have hlen := few_len l0
  have hwf := few_wf ok0
  unfold sphragislaw09_QuadBack.f
  rw [shown_at (by omega), Option.bind_some, few9, Option.bind_some]
  cases hr : rightL (l0.take 60) with
  | false => rw [build_bad hr hlen (by omega), Option.bind_some, if_pos ⟨rfl, hlen⟩, if_neg (by decide), quad_right _ _ (by omega) (by omega), hr, Option.bind_some, if_pos rfl]
  | true =>
    have g := good_of hwf hlen hr
    rw [build_good g hr (by omega), Option.bind_some, if_pos ⟨rfl, hlen⟩, if_pos rfl]
    dsimp only
    unfold quad_Size.f
    rw [rows_eq g, Option.bind_some, same_eq (by omega) (by omega), Option.bind_some, Option.bind_some, Option.bind_some]
    exact if_pos ⟨rfl, rfl⟩
end Go.Proofs.Ytojmfbdioaocpaa.P

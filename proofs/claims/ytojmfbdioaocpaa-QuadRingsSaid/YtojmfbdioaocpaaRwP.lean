/- Layer 9, plain: the rows of a tree, and how many. -/
import Derived.Test.YtojmfbdioaocpaaBuP
import Derived.Test.YtojmfbdioaocpaaTrE
import Derived.Test.YtojmfbdioaocpaaPx16
set_option linter.unusedVariables false
set_option linter.unusedSimpArgs false
namespace Go.Proofs.Ytojmfbdioaocpaa.P
open Go.RowKit Go.Proofs.YtojmfbdioaocpaaOwn Go.Proofs.YtojmfbdioaocpaaW.PrintWords Go.Proofs.YtojmfbdioaocpaaW.PrintLast Go.Proofs.YtojmfbdioaocpaaW.PrintMore
theorem rows_eq9 {l : List Row} (g : Good l) (k : Nat) : quad_Rows.f k (T9 l).1 (T9 l).2.1 (T9 l).2.2.1 (T9 l).2.2.2.1 (T9 l).2.2.2.2 = some l := by
  have hlen := g.len
  obtain ⟨h1, h2⟩ := sort_tree (ov := fun _ => false) (is := fun _ => true) (fun _ _ _ _ _ _ _ _ _ h => by simp at h) g.pt g.lev g.asc (by omega)
  unfold quad_Rows.f
  rw [show (⟨⟨(T9 l).1, (T9 l).2.1, (T9 l).2.2.1⟩, (T9 l).2.2.2.1, (T9 l).2.2.2.2⟩ : S33) = mkNode (treeP 32 l) from rfl, if_pos h1, h2]
  congr 1
  exact List.filter_eq_self.2 (fun _ _ => rfl)
theorem size_eq9 {l : List Row} (g : Good l) (k : Nat) : quad_Size.f k (T9 l).1 (T9 l).2.1 (T9 l).2.2.1 (T9 l).2.2.2.1 (T9 l).2.2.2.2 = some (l.length : Int) := by
  unfold quad_Size.f
  rw [rows_eq9 g, Option.bind_some]
end Go.Proofs.Ytojmfbdioaocpaa.P

/- Layer 9, plain: rows in a box, of the tree and of the rows. -/
import Derived.Test.YtoimgijhekahhaaBuP
import Derived.Test.YtoimgijhekahhaaTrE
import Derived.Test.YtoimgijhekahhaaSqT
import Derived.Test.YtoimgijhekahhaaPx901
set_option linter.unusedVariables false
set_option linter.unusedSimpArgs false
namespace Go.Proofs.Ytoimgijhekahhaa.P
open Go.RowKit Go.Proofs.YtoimgijhekahhaaOwn Go.Proofs.YtoimgijhekahhaaW.PrintWords Go.Proofs.YtoimgijhekahhaaW.PrintLast Go.Proofs.YtoimgijhekahhaaW.PrintMore
def inR (b0 b1 b2 b3 : Int) (r : Row) : Bool := inB b0 b1 b2 b3 r.f1 r.f2
def windowP (l : List Row) (b0 b1 b2 b3 : Int) : List Row × Int := if boxB b0 b1 b2 b3 = true then (l.filter (inR b0 b1 b2 b3), 0) else ([], 81)
theorem isW_eq (b0 b1 b2 b3 : Int) (r : Row) : isW b0 b1 b2 b3 r = inR b0 b1 b2 b3 r := by unfold isW inR; rw [cell_In.eq]
theorem touch_of {x y v b0 b1 b2 b3 u w : Int} (hr : rightB x y v = true) (hh : hasB x y v u w = true) (hi : inB b0 b1 b2 b3 u w = true) : touchB x y v b0 b1 b2 b3 = true := by
  obtain ⟨_, q1, q2, q3, q4⟩ := hasB_iff.1 hh
  obtain ⟨hb, p1, p2, p3, p4⟩ := inB_iff.1 hi
  exact touchB_iff.2 ⟨hr, hb, by omega, by omega, by omega, by omega⟩
theorem ovW_touch {b0 b1 b2 b3 : Int} (x y v : Int) (r : Row) (hx : 0 ≤ x) (hy : 0 ≤ y) (hr : rightB x y v = true) (hp : ptR r) (hh : hasB x y v r.f1 r.f2 = true) (ho : ovW b0 b1 b2 b3 ⟨x, y, v⟩ = true) : isW b0 b1 b2 b3 r = false := by
  rw [isW_eq]
  have hbd := bd_of_right hr
  unfold ovW at ho
  rw [cell_Touches.eq x y v b0 b1 b2 b3 hx hbd.1 hy hbd.2] at ho
  rw [Bool.eq_false_iff]
  intro hi
  have := touch_of hr hh hi
  rw [this] at ho
  simp at ho
theorem window_eq {l : List Row} (g : Good l) (k : Nat) (b0 b1 b2 b3 : Int) : quad_Window.f k (T9 l).1 (T9 l).2.1 (T9 l).2.2.1 (T9 l).2.2.2.1 (T9 l).2.2.2.2 b0 b1 b2 b3 = some (windowP l b0 b1 b2 b3) := by
  have hlen := g.len
  unfold quad_Window.f windowP
  rw [cell_RightBox.eq, Option.bind_some]
  cases hb : boxB b0 b1 b2 b3 with
  | false => rfl
  | true =>
    rw [if_pos rfl, if_pos rfl]
    obtain ⟨q1, q2⟩ := sort_tree (ov := ovW b0 b1 b2 b3) (is := isW b0 b1 b2 b3) (fun x y v r hx hy hr hp hh ho => ovW_touch x y v r hx hy hr hp hh ho) g.pt g.lev g.asc (by omega)
    rw [show (⟨⟨(T9 l).1, (T9 l).2.1, (T9 l).2.2.1⟩, (T9 l).2.2.2.1, (T9 l).2.2.2.2⟩ : S42) = mkNode (treeP 32 l) from rfl, if_pos q1, q2]
    rw [List.filter_congr (fun r _ => isW_eq b0 b1 b2 b3 r)]
end Go.Proofs.Ytoimgijhekahhaa.P

/- Layer 9, plain: rows in a box, of the rows (the reference). -/
import Derived.Test.YtoimgijhekahhaaJPlain
import Derived.Test.YtoimgijhekahhaaSqI
import Derived.Test.YtoimgijhekahhaaPx1401
set_option linter.unusedVariables false
set_option linter.unusedSimpArgs false
namespace Go.Proofs.Ytoimgijhekahhaa.P
open Go.RowKit Go.Proofs.YtoimgijhekahhaaOwn Go.Proofs.YtoimgijhekahhaaW.PrintWords Go.Proofs.YtoimgijhekahhaaW.PrintLast Go.Proofs.YtoimgijhekahhaaW.PrintMore
theorem ref_window_l0 {l : List Row} (hl : l.length ≤ 1000) (b0 b1 b2 b3 : Int) : ∀ (m j k : Nat) (acc : List Row), j + m = l.length → acc.length ≤ j → m < k →
  sphragisref09_Window.l0 k l acc (j : Int) b0 b1 b2 b3 = some (acc ++ (l.drop j).filter (inR b0 b1 b2 b3), 0)
 | m, j, 0, _, _, _, h => by omega
 | 0, j, k + 1, acc, hj, _, _ => by
  rw [sphragisref09_Window.l0, if_neg (by omega), List.drop_eq_nil_of_le (by omega)]
  simp
 | m + 1, j, k + 1, acc, hj, hacc, hk => by
  have hjl : j < l.length := by omega
  have hw : wrap64 ((j : Int) + 1) = ((j + 1 : Nat) : Int) := by rw [wrap64_id (by omega) (by omega)]; omega
  rw [sphragisref09_Window.l0, if_pos (by omega), if_pos (by omega), rd_at l j hjl, ref_In.eq, Option.bind_some, hw, List.drop_eq_getElem_cons hjl]
  cases hh : inB b0 b1 b2 b3 l[j].f1 l[j].f2 with
  | true =>
   rw [if_pos rfl, if_pos (by omega)]
   have := ref_window_l0 hl b0 b1 b2 b3 m (j + 1) k (acc ++ [l[j]]) (by omega) (by simp; omega) (by omega)
   show sphragisref09_Window.l0 k l (acc ++ [l[j]]) ((j + 1 : Nat) : Int) b0 b1 b2 b3 = _
   rw [this]
   have hn : inR b0 b1 b2 b3 l[j] = true := hh
   simp only [List.filter_cons, hn, if_true, List.append_assoc, List.singleton_append]
  | false =>
   rw [if_neg (by simp)]
   have := ref_window_l0 hl b0 b1 b2 b3 m (j + 1) k acc (by omega) (by omega) (by omega)
   rw [this]
   have hn : inR b0 b1 b2 b3 l[j] = false := hh
   simp only [List.filter_cons, hn, if_false, Bool.false_eq_true]
theorem ref_window_eq {l : List Row} (hl : l.length ≤ 1000) (b0 b1 b2 b3 : Int) {k : Nat} (hk : l.length < k) : sphragisref09_Window.f k l b0 b1 b2 b3 = some (windowP l b0 b1 b2 b3) := by
 unfold sphragisref09_Window.f windowP
 rw [ref_RightBox.eq, Option.bind_some]
 cases boxB b0 b1 b2 b3 with
 | false => rfl
 | true =>
  rw [if_pos rfl, if_pos rfl]
  have := ref_window_l0 hl b0 b1 b2 b3 l.length 0 k [] (by omega) (by simp) (by omega)
  simpa using this
end Go.Proofs.Ytoimgijhekahhaa.P

/- Layer 9, plain: rows near enough, of the tree and of the rows. -/
import Derived.Test.YtoimgijhekahhaaBuP
import Derived.Test.YtoimgijhekahhaaTrE
import Derived.Test.YtoimgijhekahhaaSqF
import Derived.Test.YtoimgijhekahhaaPx9
set_option linter.unusedVariables false
set_option linter.unusedSimpArgs false
namespace Go.Proofs.Ytoimgijhekahhaa.P
open Go.RowKit Go.Proofs.YtoimgijhekahhaaOwn Go.Proofs.YtoimgijhekahhaaW.PrintWords Go.Proofs.YtoimgijhekahhaaW.PrintLast Go.Proofs.YtoimgijhekahhaaW.PrintMore
def nearB (a1 a2 a3 : Int) (r : Row) : Bool := decide (sqZ a1 a2 r.f1 r.f2 ≤ a3)
def roundP (l : List Row) (a1 a2 a3 : Int) : List Row × Int := if a1 ≥ 2147483648 ∨ a2 ≥ 2147483648 then ([], 2) else (l.filter (nearB a1 a2 a3), 0)
theorem right_pt {r : Row} (h : ptR r) : rightB r.f1 r.f2 0 = true := by
  obtain ⟨h1, h2, h3, h4⟩ := h
  exact rightB_iff.2 ⟨by omega, by omega, h2, h4, by simp [sz, Int.emod_one], by simp [sz, Int.emod_one]⟩
theorem gapZ_self (u x : Int) : gapZ u x (x + sz 0 - 1) * gapZ u x (x + sz 0 - 1) = (u - x) * (u - x) := by
  have e : x + sz 0 - 1 = x := by simp [sz]
  rw [e]
  unfold gapZ
  by_cases h1 : u < x
  · rw [if_pos h1, show u - x = -(x - u) by omega, Int.neg_mul_neg]
  · rw [if_neg h1]
    by_cases h2 : u > x
    · rw [if_pos h2]
    · rw [if_neg h2, show u - x = 0 by omega]
theorem far_pt (r : Row) (u v : Int) : farZ r.f1 r.f2 0 u v = sqZ u v r.f1 r.f2 := by unfold farZ sqZ; rw [gapZ_self, gapZ_self]
theorem isR_eq {a1 a2 a3 : Int} (h1 : 0 ≤ a1) (h2 : 0 ≤ a2) (g1 : a1 < 2147483648) (g2 : a2 < 2147483648) {r : Row} (h : ptR r) : isR a1 a2 a3 r = nearB a1 a2 a3 r := by
  have hb := h
  obtain ⟨b1, b2, b3, b4⟩ := hb
  unfold isR quad_far.f nearB
  rw [cell_Far.eq 0 r.f1 r.f2 0 a1 a2 b1 (by omega) b3 (by omega) h1 h2]
  unfold farR
  rw [if_pos ⟨right_pt h, g1, g2⟩]
  simp only [Option.bind_some, far_pt]
theorem ovR_far {a1 a2 a3 : Int} (h1 : 0 ≤ a1) (h2 : 0 ≤ a2) (g1 : a1 < 2147483648) (g2 : a2 < 2147483648) (x y v : Int) (r : Row) (hx : 0 ≤ x) (hy : 0 ≤ y) (hr : rightB x y v = true) (hp : ptR r) (hh : hasB x y v r.f1 r.f2 = true) (ho : ovR a1 a2 a3 ⟨x, y, v⟩ = true) : isR a1 a2 a3 r = false := by
  rw [isR_eq h1 h2 g1 g2 hp]
  have hbd := bd_of_right hr
  unfold ovR at ho
  rw [cell_Far.eq 0 x y v a1 a2 hx hbd.1 hy hbd.2 h1 h2] at ho
  unfold farR at ho
  rw [if_pos ⟨hr, g1, g2⟩] at ho
  simp only [decide_eq_true_eq] at ho
  obtain ⟨_, q1, q2, q3, q4⟩ := hasB_iff.1 hh
  have k1 := gap_le (n := a1) (lo := x) (hi := x + sz v - 1) (m := r.f1) q1 (by omega)
  have k2 := gap_le (n := a2) (lo := y) (hi := y + sz v - 1) (m := r.f2) q2 (by omega)
  unfold nearB
  refine decide_eq_false ?_
  unfold farZ at ho
  unfold sqZ
  omega
theorem round_eq {l : List Row} (g : Good l) (k : Nat) {a1 a2 a3 : Int} (h1 : 0 ≤ a1) (h2 : 0 ≤ a2) : quad_Round.f k (T9 l).1 (T9 l).2.1 (T9 l).2.2.1 (T9 l).2.2.2.1 (T9 l).2.2.2.2 a1 a2 a3 = some (roundP l a1 a2 a3) := by
  have hlen := g.len
  unfold quad_Round.f roundP
  have hm : mx a1 a2 ≥ 2147483648 ↔ (a1 ≥ 2147483648 ∨ a2 ≥ 2147483648) := by unfold mx; split <;> omega
  by_cases hb : a1 ≥ 2147483648 ∨ a2 ≥ 2147483648
  · rw [if_pos (hm.2 hb), if_pos hb]
  · rw [if_neg (fun e => hb (hm.1 e)), if_neg hb]
    have g1 : a1 < 2147483648 := by omega
    have g2 : a2 < 2147483648 := by omega
    obtain ⟨q1, q2⟩ := sort_tree (ov := ovR a1 a2 a3) (is := isR a1 a2 a3) (fun x y v r hx hy hr hp hh ho => ovR_far h1 h2 g1 g2 x y v r hx hy hr hp hh ho) g.pt g.lev g.asc (by omega)
    rw [show (⟨⟨(T9 l).1, (T9 l).2.1, (T9 l).2.2.1⟩, (T9 l).2.2.2.1, (T9 l).2.2.2.2⟩ : S42) = mkNode (treeP 32 l) from rfl, if_pos q1, q2]
    rw [List.filter_congr (fun r hr => isR_eq h1 h2 g1 g2 (g.pt r hr))]
theorem sqZ_lt {a b u v : Int} (h1 : 0 ≤ a) (h2 : 0 ≤ b) (g1 : a < 2147483648) (g2 : b < 2147483648) (h3 : 0 ≤ u) (g3 : u < 2147483648) (h4 : 0 ≤ v) (g4 : v < 2147483648) : sqZ a b u v < 9223372036854775808 := by
  have e1 := sq_lt h1 g1 h3 g3
  have e2 := sq_lt h2 g2 h4 g4
  unfold sqZ
  generalize (a - u) * (a - u) = x at *
  generalize (b - v) * (b - v) = y at *
  clear h1 h2 g1 g2 h3 g3 h4 g4
  omega
theorem sqZ_lt' {a b u v : Int} (h1 : 0 ≤ a) (h2 : 0 ≤ b) (g1 : a < 2147483648) (g2 : b < 2147483648) (h3 : 0 ≤ u) (g3 : u < 2147483648) (h4 : 0 ≤ v) (g4 : v < 2147483648) : sqZ a b u v < 18446744073709551616 := Int.lt_trans (sqZ_lt h1 h2 g1 g2 h3 g3 h4 g4) (by decide)
end Go.Proofs.Ytoimgijhekahhaa.P

/- The pure statement of CellInside. -/
import Derived.Test.YtnpnmbfbdnbeoaaSpT
import Derived.Test.YtnpnmbfbdnbeoaaSpS
import Derived.Test.YtnpnmbfbdnbeoaaPx22
namespace Go.Proofs.Ytnpnmbfbdnbeoaa.P
set_option linter.unusedVariables false
open Go.RowKit Go.Proofs.YtnpnmbfbdnbeoaaOwn Go.Proofs.YtnpnmbfbdnbeoaaW.PrintWords Go.Proofs.YtnpnmbfbdnbeoaaW.PrintLast Go.Proofs.YtnpnmbfbdnbeoaaW.PrintMore

theorem pure_CellInside (x y l a b c d u v : Int) (hx : 0 ≤ x ∧ x ≤ 4294967295) (hy : 0 ≤ y ∧ y ≤ 4294967295) (hl : -9223372036854775808 ≤ l ∧ l ≤ 9223372036854775807) (ha : 0 ≤ a ∧ a ≤ 4294967295) (hb : 0 ≤ b ∧ b ≤ 4294967295) (hc : 0 ≤ c ∧ c ≤ 4294967295) (hd : 0 ≤ d ∧ d ≤ 4294967295) (hu : 0 ≤ u ∧ u ≤ 4294967295) (hv : 0 ≤ v ∧ v ≤ 4294967295) :
    sphragislaw08_CellInside.f 64 x y l a b c d u v = some true := by
  have hH := cell_Has.eq x y l u v (by omega) (by omega) (by omega) (by omega)
  have hT := cell_Touches.eq x y l a b c d (by omega) (by omega) (by omega) (by omega)
  have hI := cell_In.eq a b c d u v
  have j : sphragislaw08_CellInside.j0 64 u v true false x y l a b c d = some true := by
    show sphragislaw08_CellInside.j0 (63 + 1) u v true false x y l a b c d = some true
    simp only [sphragislaw08_CellInside.j0]
    rw [if_neg (by simp), hT, hH, hI]
    simp only [Option.bind_some, if_true]
    cases ht : touchB x y l a b c d with
    | true => rfl
    | false =>
      rw [if_neg (by simp)]
      cases hh : hasB x y l u v with
      | false => rfl
      | true =>
        rw [if_pos rfl]
        cases hi : inB a b c d u v with
        | false => rfl
        | true =>
          exfalso
          obtain ⟨h1, h2, h3, h4, h5⟩ := hasB_iff.1 hh
          obtain ⟨g1, g2, g3, g4, g5⟩ := inB_iff.1 hi
          have := touchB_iff.2 ⟨h1, g1, show x ≤ c by omega, show a ≤ x + sz l - 1 by omega, show y ≤ d by omega, show b ≤ y + sz l - 1 by omega⟩
          rw [ht] at this; simp at this
  unfold sphragislaw08_CellInside.f
  rw [shown_true, cell_Within.eq x y l a b c d (by omega) (by omega) (by omega) (by omega), hT, hH, hI]
  simp only [Option.bind_some]
  cases hw : withinB x y l a b c d with
  | false => rw [if_neg (by simp)]; exact j
  | true =>
    obtain ⟨h1, h2, h3, h4, h5, h6⟩ := withinB_iff.1 hw
    have s := sz_pos l
    rw [if_pos rfl, touchB_iff.2 ⟨h1, h2, by omega, by omega, by omega, by omega⟩, if_pos rfl]
    cases hh : hasB x y l u v with
    | false => rw [if_neg (by simp)]; exact j
    | true =>
      obtain ⟨_, g2, g3, g4, g5⟩ := hasB_iff.1 hh
      rw [if_pos rfl, inB_iff.2 ⟨h2, by omega, by omega, by omega, by omega⟩]
      exact j

end Go.Proofs.Ytnpnmbfbdnbeoaa.P

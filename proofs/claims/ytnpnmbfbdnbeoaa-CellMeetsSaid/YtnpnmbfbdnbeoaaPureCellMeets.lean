/- The pure statement of CellMeets. -/
import Derived.Test.YtnpnmbfbdnbeoaaSpP
import Derived.Test.YtnpnmbfbdnbeoaaSpL
import Derived.Test.YtnpnmbfbdnbeoaaSpS
import Derived.Test.YtnpnmbfbdnbeoaaPx10
namespace Go.Proofs.Ytnpnmbfbdnbeoaa.P
set_option linter.unusedVariables false
open Go.RowKit Go.Proofs.YtnpnmbfbdnbeoaaOwn Go.Proofs.YtnpnmbfbdnbeoaaW.PrintWords Go.Proofs.YtnpnmbfbdnbeoaaW.PrintLast Go.Proofs.YtnpnmbfbdnbeoaaW.PrintMore

theorem leastL_comm (x y u v : Int) : leastL u v x y = leastL x y u v := by unfold leastL; rw [Nat.xor_comm u.toNat, Nat.xor_comm v.toNat]
theorem leastR_comm {x y u v : Int} (hx : 0 ≤ x) (hy : 0 ≤ y) (hu : 0 ≤ u) (hv : 0 ≤ v) : leastR u v x y = leastR x y u v := by
  unfold leastR
  rw [leastL_comm]
  by_cases hp : x < 2147483648 ∧ y < 2147483648 ∧ u < 2147483648 ∧ v < 2147483648
  · rw [if_pos hp, if_pos ⟨hp.2.2.1, hp.2.2.2, hp.1, hp.2.1⟩]
    obtain ⟨p1, p2, p3, p4⟩ := hp
    have hL := leastL_iff hx p1 hy p2 hu p3 hv p4
    have h31 : leastL x y u v ≤ 31 := (hL 31 (by omega)).2 (oneB_top hx p1 hy p2 hu p3 hv p4)
    obtain ⟨o1, o2⟩ := oneB_iff.1 ((hL _ (by omega)).1 (Nat.le_refl _))
    unfold lowC
    rw [o1, o2]
  · rw [if_neg hp, if_neg (fun h => hp ⟨h.2.2.1, h.2.2.2, h.1, h.2.1⟩)]

theorem div_of (n : Nat) : ∀ q z : Int, q % sz (n : Int) = 0 → q ≤ z → z < q + sz (n : Int) → z / sz (n : Int) = q / sz (n : Int) := by
  intro q z h0 h1 h2
  have s := sz_pos (n : Int)
  have d := Int.mul_ediv_add_emod q (sz (n : Int))
  rw [h0] at d
  have a1 : q / sz (n : Int) ≤ z / sz (n : Int) := Int.ediv_le_ediv (by omega) h1
  have a2 : z / sz (n : Int) < q / sz (n : Int) + 1 := Int.ediv_lt_of_lt_mul (by omega) (by rw [Int.add_mul, Int.mul_comm]; omega)
  omega
theorem meets_j2 (k : Nat) {x y u v : Int} (hx : 0 ≤ x) (p1 : x < 2147483648) (hy : 0 ≤ y) (p2 : y < 2147483648) (hu : 0 ≤ u) (p3 : u < 2147483648) (hv : 0 ≤ v) (p4 : v < 2147483648) (hn : ¬ (x = u ∧ y = v)) :
    sphragislaw08_CellMeets.j2 (k + 1) x y u v true false (lowC x (leastL x y u v)) (lowC y (leastL x y u v)) (leastL x y u v) = some true := by
  have hL := leastL_iff hx p1 hy p2 hu p3 hv p4
  have h31 : leastL x y u v ≤ 31 := (hL 31 (by omega)).2 (oneB_top hx p1 hy p2 hu p3 hv p4)
  generalize hn' : leastL x y u v = n at hL h31 ⊢
  have hpos : 1 ≤ n := by
    apply Decidable.byContradiction
    intro h
    have := oneB_iff.1 ((hL 0 (by omega)).1 (by omega))
    rw [show sz ((0 : Nat) : Int) = 1 from rfl, Int.ediv_one, Int.ediv_one, Int.ediv_one, Int.ediv_one] at this
    exact hn this
  have b1 := lowC_bd hx n
  have b2 := lowC_bd hy n
  have l1 : lowC x n < 2147483648 := by omega
  have l2 : lowC y n < 2147483648 := by omega
  have hr : rightB (lowC x n) (lowC y n) n = true := rightB_iff.2 ⟨by omega, by omega, l1, l2, b1.2.2.2, b2.2.2.2⟩
  have hq : isQ (lowC x n) (lowC y n) n = true := isQ_iff.2 ⟨hr, by omega⟩
  have hb := (hL n (by omega)).1 (Nat.le_refl _)
  have ha : hasB (lowC x n) (lowC y n) n x y = true := by rw [ref_has hx hy n h31 ⟨p1, p2⟩]; exact oneB_iff.2 ⟨rfl, rfl⟩
  have hc : hasB (lowC x n) (lowC y n) n u v = true := by rw [ref_has hx hy n h31 ⟨p1, p2⟩]; exact hb
  obtain ⟨i, hi, hi1, hi2⟩ := where_ex b1.1 b2.1 hq ha
  obtain ⟨j, hj, hj1, hj2⟩ := where_ex b1.1 b2.1 hq hc
  simp only [sphragislaw08_CellMeets.j2]
  rw [if_neg (by simp), cell_Where.eq _ _ _ x y b1.1 (by omega) b2.1 (by omega), cell_Where.eq _ _ _ u v b1.1 (by omega) b2.1 (by omega), hi2, hj2]
  simp only [Option.bind_some, if_true]
  congr 1
  rw [bne_iff_ne]
  intro e
  have e' : i = j := by omega
  subst e'
  have g1 := (q_has b1.1 b2.1 hq i hi x y).1 hi1
  have g2 := (q_has b1.1 b2.1 hq i hi u v).1 hj1
  have qr := q_right b1.1 b2.1 hq i hi
  obtain ⟨_, _, _, _, m1, m2⟩ := rightB_iff.1 qr
  rw [show ((n : Int) - 1) = ((n - 1 : Nat) : Int) by omega] at g1 g2 m1 m2
  have o : oneB x y u v (n - 1) = true := oneB_iff.2 ⟨(div_of _ _ _ m1 g1.1 g1.2.2.1).trans (div_of _ _ _ m1 g2.1 g2.2.2.1).symm, (div_of _ _ _ m2 g1.2.1 g1.2.2.2).trans (div_of _ _ _ m2 g2.2.1 g2.2.2.2).symm⟩
  have := (hL (n - 1) (by omega)).2 o
  omega

theorem meets_j0 (k : Nat) {x y u v : Int} (hx : 0 ≤ x) (p1 : x < 2147483648) (hy : 0 ≤ y) (p2 : y < 2147483648) (hu : 0 ≤ u) (p3 : u < 2147483648) (hv : 0 ≤ v) (p4 : v < 2147483648) :
    sphragislaw08_CellMeets.j0 (k + 3) x y u v true 0 0 false (lowC x (leastL x y u v)) (lowC y (leastL x y u v)) (leastL x y u v) (lowC x (leastL x y u v)) (lowC y (leastL x y u v)) (leastL x y u v) = some true := by
  have hL := leastL_iff hx p1 hy p2 hu p3 hv p4
  have h31 : leastL x y u v ≤ 31 := (hL 31 (by omega)).2 (oneB_top hx p1 hy p2 hu p3 hv p4)
  have b1 := lowC_bd hx (leastL x y u v)
  have b2 := lowC_bd hy (leastL x y u v)
  have l1 : lowC x (leastL x y u v) < 4294967296 := by omega
  have l2 : lowC y (leastL x y u v) < 4294967296 := by omega
  have hb := (hL _ (by omega)).1 (Nat.le_refl _)
  have ha : hasB (lowC x (leastL x y u v)) (lowC y (leastL x y u v)) (leastL x y u v) x y = true := by rw [ref_has hx hy _ h31 ⟨p1, p2⟩]; exact oneB_iff.2 ⟨rfl, rfl⟩
  have hc : hasB (lowC x (leastL x y u v)) (lowC y (leastL x y u v)) (leastL x y u v) u v = true := by rw [ref_has hx hy _ h31 ⟨p1, p2⟩]; exact hb
  rw [sphragislaw08_CellMeets.j0, if_neg (by simp), if_pos rfl, if_pos rfl, if_neg (by simp), cell_Has.eq _ _ _ x y b1.1 l1 b2.1 l2, cell_Has.eq _ _ _ u v b1.1 l1 b2.1 l2, ha, hc]
  simp only [Option.bind_some, if_true]
  rw [sphragislaw08_CellMeets.j1, if_neg (by simp)]
  by_cases h1 : x = u
  · rw [if_pos h1]
    by_cases h2 : y = v
    · rw [beq_iff_eq.2 h2, sphragislaw08_CellMeets.j2, if_pos rfl, if_pos rfl]
      have : leastL x y u v = 0 := by
        have := (hL 0 (by omega)).2 (oneB_iff.2 ⟨by rw [h1], by rw [h2]⟩)
        omega
      rw [this]; rfl
    · rw [beq_eq_false_iff_ne.2 h2]
      exact meets_j2 k hx p1 hy p2 hu p3 hv p4 (fun h => h2 h.2)
  · rw [if_neg h1]
    exact meets_j2 k hx p1 hy p2 hu p3 hv p4 (fun h => h1 h.1)

theorem pure_CellMeets (x y u v : Int) (hx : 0 ≤ x ∧ x ≤ 4294967295) (hy : 0 ≤ y ∧ y ≤ 4294967295) (hu : 0 ≤ u ∧ u ≤ 4294967295) (hv : 0 ≤ v ∧ v ≤ 4294967295) :
    sphragislaw08_CellMeets.f 64 x y u v = some true := by
  unfold sphragislaw08_CellMeets.f
  rw [shown_true, cell_Least.eq (by omega) (by omega) (by omega) (by omega) (by omega) (by omega) (by omega) (by omega), cell_Least.eq (x := u) (by omega) (by omega) (by omega) (by omega) (by omega) (by omega) (by omega) (by omega), leastR_comm hx.1 hy.1 hu.1 hv.1]
  simp only [Option.bind_some]
  have no : ∀ a b c d e f : Int, sphragislaw08_CellMeets.j0 64 x y u v true 2 2 true a b c d e f = some true := fun a b c d e f => by
    show sphragislaw08_CellMeets.j0 (63 + 1) x y u v true 2 2 true a b c d e f = some true
    simp only [sphragislaw08_CellMeets.j0]; rfl
  unfold leastR
  by_cases h1 : x ≥ 2147483648
  · rw [if_neg (show ¬ (x < 2147483648 ∧ y < 2147483648 ∧ u < 2147483648 ∧ v < 2147483648) by omega), if_pos h1]; exact no _ _ _ _ _ _
  by_cases h2 : y ≥ 2147483648
  · rw [if_neg (show ¬ (x < 2147483648 ∧ y < 2147483648 ∧ u < 2147483648 ∧ v < 2147483648) by omega), if_neg h1, if_pos h2]; exact no _ _ _ _ _ _
  by_cases h3 : u ≥ 2147483648
  · rw [if_neg (show ¬ (x < 2147483648 ∧ y < 2147483648 ∧ u < 2147483648 ∧ v < 2147483648) by omega), if_neg h1, if_neg h2, if_pos h3]; exact no _ _ _ _ _ _
  rw [if_neg h1, if_neg h2, if_neg h3]
  by_cases h4 : v ≥ 2147483648
  · rw [if_neg (show ¬ (x < 2147483648 ∧ y < 2147483648 ∧ u < 2147483648 ∧ v < 2147483648) by omega), decide_eq_true h4]; exact no _ _ _ _ _ _
  rw [if_pos (show x < 2147483648 ∧ y < 2147483648 ∧ u < 2147483648 ∧ v < 2147483648 by omega), decide_eq_false h4]
  exact meets_j0 61 (by omega) (by omega) (by omega) (by omega) (by omega) (by omega) (by omega) (by omega)

end Go.Proofs.Ytnpnmbfbdnbeoaa.P

/- The pure statement of CellFar. -/
import Derived.Test.YtnpnmbfbdnbeoaaSpF
import Derived.Test.YtnpnmbfbdnbeoaaSpS
import Derived.Test.YtnpnmbfbdnbeoaaPx12
namespace Go.Proofs.Ytnpnmbfbdnbeoaa.P
set_option linter.unusedVariables false
open Go.RowKit Go.Proofs.YtnpnmbfbdnbeoaaOwn Go.Proofs.YtnpnmbfbdnbeoaaW.PrintWords Go.Proofs.YtnpnmbfbdnbeoaaW.PrintLast Go.Proofs.YtnpnmbfbdnbeoaaW.PrintMore

theorem gap_le {n lo hi m : Int} (h1 : lo ≤ m) (h2 : m ≤ hi) : gapZ n lo hi * gapZ n lo hi ≤ (n - m) * (n - m) := by
  unfold gapZ
  split
  · rw [show n - m = -(m - n) by omega, Int.neg_mul_neg]; exact Int.mul_le_mul (by omega) (by omega) (by omega) (by omega)
  · split
    · exact Int.mul_le_mul (by omega) (by omega) (by omega) (by omega)
    · rw [Int.zero_mul]
      rcases Int.le_total m n with h | h
      · exact Int.mul_nonneg (by omega) (by omega)
      · rw [show n - m = -(m - n) by omega, Int.neg_mul_neg]; exact Int.mul_nonneg (by omega) (by omega)
theorem gap_zero {n lo hi : Int} (h : lo ≤ hi) : gapZ n lo hi * gapZ n lo hi = 0 ↔ lo ≤ n ∧ n ≤ hi := by
  unfold gapZ
  split
  · constructor
    · intro h'; rcases Int.mul_eq_zero.1 h' with h' | h' <;> omega
    · omega
  · split
    · constructor
      · intro h'; rcases Int.mul_eq_zero.1 h' with h' | h' <;> omega
      · omega
    · simp; omega
theorem sq_pos (a : Int) : 0 ≤ a * a := by
  rcases Int.le_total 0 a with h | h
  · exact Int.mul_nonneg h h
  · rw [show a * a = -a * -a by rw [Int.neg_mul_neg]]; exact Int.mul_nonneg (by omega) (by omega)
theorem sq_lt {a b : Int} (h0 : 0 ≤ a) (h1 : a < 2147483648) (h2 : 0 ≤ b) (h3 : b < 2147483648) : (a - b) * (a - b) < 4611686018427387904 := by
  rcases Int.le_total b a with h | h
  · exact (sq_bd (by omega) (by omega)).2
  · rw [show a - b = -(b - a) by omega, Int.neg_mul_neg]; exact (sq_bd (by omega) (by omega)).2
theorem pure_CellFar (x y l a b u v : Int) (hx : 0 ≤ x ∧ x ≤ 4294967295) (hy : 0 ≤ y ∧ y ≤ 4294967295) (hl : -9223372036854775808 ≤ l ∧ l ≤ 9223372036854775807) (ha : 0 ≤ a ∧ a ≤ 4294967295) (hb : 0 ≤ b ∧ b ≤ 4294967295) (hu : 0 ≤ u ∧ u ≤ 4294967295) (hv : 0 ≤ v ∧ v ≤ 4294967295) :
    sphragislaw08_CellFar.f 64 x y l a b u v = some true := by
  unfold sphragislaw08_CellFar.f
  rw [shown_true, cell_Far.eq 63 x y l a b (by omega) (by omega) (by omega) (by omega) (by omega) (by omega), cell_Has.eq x y l a b (by omega) (by omega) (by omega) (by omega), cell_Has.eq x y l u v (by omega) (by omega) (by omega) (by omega), cell_Right.eq x y l (by omega) (by omega) (by omega) (by omega)]
  simp only [Option.bind_some, if_true]
  unfold farR
  by_cases hp : rightB x y l = true ∧ a < 2147483648 ∧ b < 2147483648
  · rw [if_pos hp]
    simp only [if_true]
    obtain ⟨hr, p1, p2⟩ := hp
    obtain ⟨r0, r1, r2, r3, r4, r5⟩ := rightB_iff.1 hr
    have s := sz_pos l
    have q1 := sq_pos (gapZ a x (x + sz l - 1))
    have q2 := sq_pos (gapZ b y (y + sz l - 1))
    have z1 := gap_zero (n := a) (lo := x) (hi := x + sz l - 1) (by omega)
    have z2 := gap_zero (n := b) (lo := y) (hi := y + sz l - 1) (by omega)
    have hz : (farZ x y l a b == 0) = hasB x y l a b := by
      rw [Bool.eq_iff_iff, beq_iff_eq, hasB_iff]
      simp only [hr, true_and]
      unfold farZ
      constructor
      · intro h
        have g1 := z1.1 (by omega)
        have g2 := z2.1 (by omega)
        omega
      · rintro ⟨h1, h2, h3, h4⟩
        rw [z1.2 ⟨h1, by omega⟩, z2.2 ⟨h2, by omega⟩]; rfl
    rw [hz, if_neg (by simp)]
    cases hh : hasB x y l u v with
    | false => rfl
    | true =>
      rw [if_pos rfl]
      obtain ⟨_, h1, h2, h3, h4⟩ := hasB_iff.1 hh
      have f1 := right_far r0 r1 r2 r4
      have f2 := right_far r0 r1 r3 r5
      have t1 := sq_lt (a := a) (b := u) (by omega) p1 (by omega) (by omega)
      have t2 := sq_lt (a := b) (b := v) (by omega) p2 (by omega) (by omega)
      rw [ref_Square.eq (by omega) (by omega) (by omega) (by omega) (by omega) (by omega) (by omega) (by omega) (by unfold sqZ; omega)]
      simp only [Option.bind_some]
      congr 1
      rw [decide_eq_true_iff]
      unfold farZ sqZ
      have k1 := gap_le (n := a) (lo := x) (hi := x + sz l - 1) (m := u) h1 (by omega)
      have k2 := gap_le (n := b) (lo := y) (hi := y + sz l - 1) (m := v) h2 (by omega)
      omega
  · rw [if_neg hp, if_neg (by simp)]
    cases hr : rightB x y l with
    | false => rfl
    | true =>
      rw [if_pos rfl]
      by_cases h : a ≥ 2147483648
      · rw [if_pos h]
      · rw [if_neg h]; congr 1; rw [decide_eq_true_iff]
        apply Decidable.byContradiction
        intro h'
        exact hp ⟨hr, by omega, by omega⟩

end Go.Proofs.Ytnpnmbfbdnbeoaa.P

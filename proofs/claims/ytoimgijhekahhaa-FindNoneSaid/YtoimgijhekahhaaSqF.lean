/- What Far says, of the program. Plain. -/
import Derived.Test.YtoimgijhekahhaaSqA
import Derived.Test.YtoimgijhekahhaaPx302
namespace Go.Proofs.Ytoimgijhekahhaa.P
set_option linter.unusedVariables false
set_option linter.unusedSimpArgs false
open Go.RowKit Go.Proofs.YtoimgijhekahhaaOwn Go.Proofs.YtoimgijhekahhaaW.PrintWords Go.Proofs.YtoimgijhekahhaaW.PrintLast Go.Proofs.YtoimgijhekahhaaW.PrintMore
/-- How far a number is from what lies between two others. -/
def gapZ (n lo hi : Int) : Int := if n < lo then lo - n else if n > hi then n - hi else 0
theorem gapZ_bd {n lo hi : Int} (h0 : 0 ≤ n) (h1 : n < 2147483648) (h2 : 0 ≤ lo) (h3 : lo ≤ hi) (h4 : hi < 2147483648) : 0 ≤ gapZ n lo hi ∧ gapZ n lo hi < 2147483648 := by
  unfold gapZ; split
  · omega
  · split <;> omega
theorem sq_bd {a : Int} (h0 : 0 ≤ a) (h1 : a < 2147483648) : 0 ≤ a * a ∧ a * a < 4611686018427387904 := by
  constructor
  · exact Int.mul_nonneg h0 h0
  · have : a * a ≤ 2147483647 * 2147483647 := Int.mul_le_mul (by omega) (by omega) h0 (by omega)
    omega
/-- The square of the distance of a point and a right cell. -/
def farZ (x y l u v : Int) : Int := gapZ u x (x + sz l - 1) * gapZ u x (x + sz l - 1) + gapZ v y (y + sz l - 1) * gapZ v y (y + sz l - 1)
def farR (x y l u v : Int) : Int × Int := if rightB x y l = true ∧ u < 2147483648 ∧ v < 2147483648 then (farZ x y l u v, 0) else (0, 2)
theorem farZ_bd {x y l u v : Int} (hx : 0 ≤ x) (hy : 0 ≤ y) (hu : 0 ≤ u) (hv : 0 ≤ v) (h : rightB x y l = true) (h1 : u < 2147483648) (h2 : v < 2147483648) : 0 ≤ farZ x y l u v ∧ farZ x y l u v < 9223372036854775808 := by
  obtain ⟨r0, r1, r2, r3, r4, r5⟩ := rightB_iff.1 h
  have s1 := sz_pos l
  have f1 := right_far r0 r1 r2 r4
  have f2 := right_far r0 r1 r3 r5
  have g1 := gapZ_bd (n := u) (lo := x) (hi := x + sz l - 1) hu h1 hx (by omega) (by omega)
  have g2 := gapZ_bd (n := v) (lo := y) (hi := y + sz l - 1) hv h2 hy (by omega) (by omega)
  have q1 := sq_bd g1.1 g1.2
  have q2 := sq_bd g2.1 g2.2
  unfold farZ
  omega

theorem cell_gap.eq {n lo hi : Int} (h0 : 0 ≤ n) (h1 : n < 2147483648) (h2 : 0 ≤ lo) (h3 : lo ≤ hi) (h4 : hi < 2147483648) : cell_gap.f n lo hi = some (gapZ n lo hi) := by
  unfold cell_gap.f gapZ
  split
  · congr 1; omega
  · split
    · congr 1; omega
    · rfl
theorem cell_Far.eq (k : Nat) (x y l u v : Int) (hx : 0 ≤ x) (hx1 : x < 4294967296) (hy : 0 ≤ y) (hy1 : y < 4294967296) (hu : 0 ≤ u) (hv : 0 ≤ v) : cell_Far.f (k + 1) x y l u v = some (farR x y l u v) := by
  unfold cell_Far.f farR
  rw [cell_Right.eq x y l hx hx1 hy hy1]
  simp only [Option.bind_some]
  cases hr : rightB x y l with
  | false => rw [if_neg (by simp), if_neg (by simp)]; simp only [cell_Far.j0]; rfl
  | true =>
    rw [if_pos rfl]
    simp only [cell_Far.j0]
    have hm : decide (mx u v ≥ 2147483648) = true ↔ ¬ (u < 2147483648 ∧ v < 2147483648) := by
      rw [decide_eq_true_iff]; unfold mx; split <;> omega
    by_cases hp : u < 2147483648 ∧ v < 2147483648
    · rw [if_neg (fun h => hm.1 h hp), if_pos ⟨by first | trivial | rfl, hp.1, hp.2⟩, cell_all.eq x y l hx hy hr]
      simp only [Option.bind_some]
      obtain ⟨r0, r1, r2, r3, r4, r5⟩ := rightB_iff.1 hr
      have s1 := sz_pos l
      have f1 := right_far r0 r1 r2 r4
      have f2 := right_far r0 r1 r3 r5
      have g1 := gapZ_bd (n := u) (lo := x) (hi := x + sz l - 1) hu hp.1 hx (by omega) (by omega)
      have g2 := gapZ_bd (n := v) (lo := y) (hi := y + sz l - 1) hv hp.2 hy (by omega) (by omega)
      rw [cell_gap.eq hu hp.1 hx (by omega) (by omega), cell_gap.eq hv hp.2 hy (by omega) (by omega)]
      simp only [Option.bind_some]
      have q1 := sq_bd g1.1 g1.2
      have q2 := sq_bd g2.1 g2.2
      rw [wrap_u64 _ q1.1 (by omega), wrap_u64 _ q2.1 (by omega), wrap_u64 _ (by omega) (by omega)]
      rfl
    · rw [if_pos (hm.2 hp), if_neg (fun h => hp h.2)]
/-- The square of the distance of two points. -/
def sqZ (x y u v : Int) : Int := (x - u) * (x - u) + (y - v) * (y - v)
theorem gap_le {n lo hi m : Int} (h1 : lo ≤ m) (h2 : m ≤ hi) : gapZ n lo hi * gapZ n lo hi ≤ (n - m) * (n - m) := by
  unfold gapZ
  split
  · rw [show n - m = -(m - n) by omega, Int.neg_mul_neg]; exact Int.mul_le_mul (by omega) (by omega) (by omega) (by omega)
  · split
    · exact Int.mul_le_mul (by omega) (by omega) (by omega) (by omega)
    · rw [Int.zero_mul]
      rcases Int.le_total m n with h | h
      · exact Int.mul_nonneg (by omega) (by omega)
      · rw [show n - m = -(m - n) by omega, Int.neg_mul_neg]; exact Int.mul_nonneg (by omega) (by omega)
theorem gap_zero {n lo hi : Int} (h : lo ≤ hi) : gapZ n lo hi * gapZ n lo hi = 0 ↔ lo ≤ n ∧ n ≤ hi := by
  unfold gapZ
  split
  · constructor
    · intro h'; rcases Int.mul_eq_zero.1 h' with h' | h' <;> omega
    · omega
  · split
    · constructor
      · intro h'; rcases Int.mul_eq_zero.1 h' with h' | h' <;> omega
      · omega
    · simp; omega
theorem sq_pos (a : Int) : 0 ≤ a * a := by
  rcases Int.le_total 0 a with h | h
  · exact Int.mul_nonneg h h
  · rw [show a * a = -a * -a by rw [Int.neg_mul_neg]]; exact Int.mul_nonneg (by omega) (by omega)
theorem sq_lt {a b : Int} (h0 : 0 ≤ a) (h1 : a < 2147483648) (h2 : 0 ≤ b) (h3 : b < 2147483648) : (a - b) * (a - b) < 4611686018427387904 := by
  rcases Int.le_total b a with h | h
  · exact (sq_bd (by omega) (by omega)).2
  · rw [show a - b = -(b - a) by omega, Int.neg_mul_neg]; exact (sq_bd (by omega) (by omega)).2
end Go.Proofs.Ytoimgijhekahhaa.P

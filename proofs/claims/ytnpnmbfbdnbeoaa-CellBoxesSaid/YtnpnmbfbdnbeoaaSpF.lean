/- What Far says, of the program and of the reference. Plain. -/
import Derived.Test.YtnpnmbfbdnbeoaaSpA
import Derived.Test.YtnpnmbfbdnbeoaaPx11
import Derived.Test.YtnpnmbfbdnbeoaaPx17
import Derived.Test.YtnpnmbfbdnbeoaaPx3
namespace Go.Proofs.Ytnpnmbfbdnbeoaa.P
set_option linter.unusedVariables false
open Go.RowKit Go.Proofs.YtnpnmbfbdnbeoaaOwn Go.Proofs.YtnpnmbfbdnbeoaaW.PrintWords Go.Proofs.YtnpnmbfbdnbeoaaW.PrintLast Go.Proofs.YtnpnmbfbdnbeoaaW.PrintMore

/-- How far a number is from what lies between two others. -/
def gapZ (n lo hi : Int) : Int := if n < lo then lo - n else if n > hi then n - hi else 0
theorem gapZ_bd {n lo hi : Int} (h0 : 0 ≤ n) (h1 : n < 2147483648) (h2 : 0 ≤ lo) (h3 : lo ≤ hi) (h4 : hi < 2147483648) : 0 ≤ gapZ n lo hi ∧ gapZ n lo hi < 2147483648 := by
  unfold gapZ; split
  · omega
  · split <;> omega
theorem sq_bd {a : Int} (h0 : 0 ≤ a) (h1 : a < 2147483648) : 0 ≤ a * a ∧ a * a < 4611686018427387904 := by
  constructor
  · exact Int.mul_nonneg h0 h0
  · have : a * a ≤ 2147483647 * 2147483647 := Int.mul_le_mul (by omega) (by omega) h0 (by omega)
    omega
/-- The square of the distance of a point and a right cell. -/
def farZ (x y l u v : Int) : Int := gapZ u x (x + sz l - 1) * gapZ u x (x + sz l - 1) + gapZ v y (y + sz l - 1) * gapZ v y (y + sz l - 1)
def farR (x y l u v : Int) : Int × Int := if rightB x y l = true ∧ u < 2147483648 ∧ v < 2147483648 then (farZ x y l u v, 0) else (0, 2)
theorem farZ_bd {x y l u v : Int} (hx : 0 ≤ x) (hy : 0 ≤ y) (hu : 0 ≤ u) (hv : 0 ≤ v) (h : rightB x y l = true) (h1 : u < 2147483648) (h2 : v < 2147483648) : 0 ≤ farZ x y l u v ∧ farZ x y l u v < 9223372036854775808 := by
  obtain ⟨r0, r1, r2, r3, r4, r5⟩ := rightB_iff.1 h
  have s1 := sz_pos l
  have f1 := right_far r0 r1 r2 r4
  have f2 := right_far r0 r1 r3 r5
  have g1 := gapZ_bd (n := u) (lo := x) (hi := x + sz l - 1) hu h1 hx (by omega) (by omega)
  have g2 := gapZ_bd (n := v) (lo := y) (hi := y + sz l - 1) hv h2 hy (by omega) (by omega)
  have q1 := sq_bd g1.1 g1.2
  have q2 := sq_bd g2.1 g2.2
  unfold farZ
  omega

theorem cell_gap.eq {n lo hi : Int} (h0 : 0 ≤ n) (h1 : n < 2147483648) (h2 : 0 ≤ lo) (h3 : lo ≤ hi) (h4 : hi < 2147483648) : cell_gap.f n lo hi = some (gapZ n lo hi) := by
  unfold cell_gap.f gapZ
  split
  · congr 1; omega
  · split
    · congr 1; omega
    · rfl
theorem cell_Far.eq (k : Nat) (x y l u v : Int) (hx : 0 ≤ x) (hx1 : x < 4294967296) (hy : 0 ≤ y) (hy1 : y < 4294967296) (hu : 0 ≤ u) (hv : 0 ≤ v) : cell_Far.f (k + 1) x y l u v = some (farR x y l u v) := by
  unfold cell_Far.f farR
  rw [cell_Right.eq x y l hx hx1 hy hy1]
  simp only [Option.bind_some]
  cases hr : rightB x y l with
  | false => rw [if_neg (by simp), if_neg (by simp)]; simp only [cell_Far.j0]; rfl
  | true =>
    rw [if_pos rfl]
    simp only [cell_Far.j0]
    have hm : decide (mx u v ≥ 2147483648) = true ↔ ¬ (u < 2147483648 ∧ v < 2147483648) := by
      rw [decide_eq_true_iff]; unfold mx; split <;> omega
    by_cases hp : u < 2147483648 ∧ v < 2147483648
    · rw [if_neg (fun h => hm.1 h hp), if_pos ⟨by first | trivial | rfl, hp.1, hp.2⟩, cell_all.eq x y l hx hy hr]
      simp only [Option.bind_some]
      obtain ⟨r0, r1, r2, r3, r4, r5⟩ := rightB_iff.1 hr
      have s1 := sz_pos l
      have f1 := right_far r0 r1 r2 r4
      have f2 := right_far r0 r1 r3 r5
      have g1 := gapZ_bd (n := u) (lo := x) (hi := x + sz l - 1) hu hp.1 hx (by omega) (by omega)
      have g2 := gapZ_bd (n := v) (lo := y) (hi := y + sz l - 1) hv hp.2 hy (by omega) (by omega)
      rw [cell_gap.eq hu hp.1 hx (by omega) (by omega), cell_gap.eq hv hp.2 hy (by omega) (by omega)]
      simp only [Option.bind_some]
      have q1 := sq_bd g1.1 g1.2
      have q2 := sq_bd g2.1 g2.2
      rw [wrap_u64 _ q1.1 (by omega), wrap_u64 _ q2.1 (by omega), wrap_u64 _ (by omega) (by omega)]
      rfl
    · rw [if_pos (hm.2 hp), if_neg (fun h => hp h.2)]
/-- The square of the distance of two points. -/
def sqZ (x y u v : Int) : Int := (x - u) * (x - u) + (y - v) * (y - v)
theorem ref_Square.eq {x y u v : Int} (hx : 0 ≤ x) (hx1 : x < 4294967296) (hy : 0 ≤ y) (hy1 : y < 4294967296) (hu : 0 ≤ u) (hu1 : u < 4294967296) (hv : 0 ≤ v) (hv1 : v < 4294967296)
    (hb : sqZ x y u v < 18446744073709551616) : sphragisref08_Square.f x y u v = some (sqZ x y u v) := by
  unfold sphragisref08_Square.f
  have e1 : ∀ a b : Int, 0 ≤ a → a < 4294967296 → 0 ≤ b → b < 4294967296 → ((mx a b - mn a b) % 4294967296) * ((mx a b - mn a b) % 4294967296) = (a - b) * (a - b) := by
    intro a b h0 h1 h2 h3
    unfold mx mn
    by_cases h : a < b
    · rw [if_pos h, if_neg (by omega), Int.emod_eq_of_lt (by omega) (by omega)]
      rw [show b - a = -(a - b) by omega, Int.neg_mul_neg]
    · rw [if_neg h]
      by_cases h' : b < a
      · rw [if_pos h', Int.emod_eq_of_lt (by omega) (by omega)]
      · have : a = b := by omega
        subst this
        simp
  rw [e1 x u hx hx1 hu hu1, e1 y v hy hy1 hv hv1]
  have p1 : 0 ≤ (x - u) * (x - u) := by
    rcases Int.le_total u x with h | h
    · exact Int.mul_nonneg (by omega) (by omega)
    · rw [show x - u = -(u - x) by omega, Int.neg_mul_neg]; exact Int.mul_nonneg (by omega) (by omega)
  have p2 : 0 ≤ (y - v) * (y - v) := by
    rcases Int.le_total v y with h | h
    · exact Int.mul_nonneg (by omega) (by omega)
    · rw [show y - v = -(v - y) by omega, Int.neg_mul_neg]; exact Int.mul_nonneg (by omega) (by omega)
  have hb' : (x - u) * (x - u) + (y - v) * (y - v) < 18446744073709551616 := hb
  rw [wrap_u64 _ p1 (by omega), wrap_u64 _ p2 (by omega), wrap_u64 _ (by omega) (by omega)]
  rfl
theorem clamp_gap {n lo hi : Int} (h : lo ≤ hi) : (n - mn (mx n lo) hi) * (n - mn (mx n lo) hi) = gapZ n lo hi * gapZ n lo hi := by
  unfold gapZ mn mx
  by_cases h1 : n < lo
  · rw [if_pos h1, if_pos h1]
    by_cases h2 : hi < lo
    · omega
    · rw [if_neg h2, show n - lo = -(lo - n) by omega, Int.neg_mul_neg]
  · rw [if_neg h1, if_neg h1]
    by_cases h2 : hi < n
    · rw [if_pos h2, if_pos h2]
    · rw [if_neg h2, if_neg h2]; simp
theorem ref_Far.eq (k : Nat) (x y l u v : Int) (hx : 0 ≤ x) (hx1 : x < 4294967296) (hy : 0 ≤ y) (hy1 : y < 4294967296) (hu : 0 ≤ u) (hu1 : u < 4294967296) (hv : 0 ≤ v) (hv1 : v < 4294967296) : sphragisref08_Far.f (k + 1) x y l u v = some (farR x y l u v) := by
  unfold sphragisref08_Far.f farR
  rw [ref_Right.eq k x y l hx hx1 hy hy1]
  simp only [Option.bind_some]
  have jt : ∀ a b c d e, sphragisref08_Far.j0 (k + 1) a b true c d e = some (0, 2) := fun _ _ _ _ _ => by simp only [sphragisref08_Far.j0]; rfl
  cases hr : rightB x y l with
  | false => rw [if_neg (by simp), jt, if_neg (by simp)]
  | true =>
    rw [if_pos rfl]
    by_cases hp1 : u ≥ 2147483648
    · rw [if_pos hp1, jt, if_neg (by omega)]
    rw [if_neg hp1]
    by_cases hp2 : v ≥ 2147483648
    · rw [decide_eq_true hp2, jt, if_neg (by omega)]
    rw [decide_eq_false hp2, if_pos ⟨rfl, by omega, by omega⟩]
    simp only [sphragisref08_Far.j0]
    obtain ⟨r0, r1, r2, r3, r4, r5⟩ := rightB_iff.1 hr
    have s1 := sz_pos l
    have f1 := right_far r0 r1 r2 r4
    have f2 := right_far r0 r1 r3 r5
    rw [if_neg (by simp), ref_Size.eq x y l r0 r1]
    simp only [Option.bind_some]
    rw [wrap_u64 u hu (by omega), wrap_u64 v hv (by omega), wrap_u64 x hx (by omega), wrap_u64 y hy (by omega), wrap_u64 (x + sz l) (by omega) (by omega), wrap_u64 (y + sz l) (by omega) (by omega), wrap_u64 (x + sz l - 1) (by omega) (by omega), wrap_u64 (y + sz l - 1) (by omega) (by omega)]
    have m1 : 0 ≤ mn (mx u x) (x + sz l - 1) ∧ mn (mx u x) (x + sz l - 1) < 4294967296 := by unfold mn mx; split <;> split <;> omega
    have m2 : 0 ≤ mn (mx v y) (y + sz l - 1) ∧ mn (mx v y) (y + sz l - 1) < 4294967296 := by unfold mn mx; split <;> split <;> omega
    rw [Int.emod_eq_of_lt m1.1 m1.2, Int.emod_eq_of_lt m2.1 m2.2]
    have e : sqZ u v (mn (mx u x) (x + sz l - 1)) (mn (mx v y) (y + sz l - 1)) = farZ x y l u v := by
      unfold sqZ farZ; rw [clamp_gap (by omega), clamp_gap (by omega)]
    have b := farZ_bd hx hy hu hv hr (by omega) (by omega)
    rw [ref_Square.eq hu hu1 hv hv1 m1.1 m1.2 m2.1 m2.2 (by rw [e]; omega), e]
    rfl

end Go.Proofs.Ytnpnmbfbdnbeoaa.P

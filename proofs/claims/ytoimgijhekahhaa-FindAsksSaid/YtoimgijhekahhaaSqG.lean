/- What Square says, of the reference. Plain. -/
import Derived.Test.YtoimgijhekahhaaJPlain
import Derived.Test.YtoimgijhekahhaaPx1202
namespace Go.Proofs.Ytoimgijhekahhaa.P
set_option linter.unusedVariables false
set_option linter.unusedSimpArgs false
open Go.RowKit Go.Proofs.YtoimgijhekahhaaOwn Go.Proofs.YtoimgijhekahhaaW.PrintWords Go.Proofs.YtoimgijhekahhaaW.PrintLast Go.Proofs.YtoimgijhekahhaaW.PrintMore
theorem ref_Square.eq {x y u v : Int} (hx : 0 ≤ x) (hx1 : x < 4294967296) (hy : 0 ≤ y) (hy1 : y < 4294967296) (hu : 0 ≤ u) (hu1 : u < 4294967296) (hv : 0 ≤ v) (hv1 : v < 4294967296)
  (hb : sqZ x y u v < 18446744073709551616) : sphragisref08_Square.f x y u v = some (sqZ x y u v) := by
 unfold sphragisref08_Square.f
 have e1 : ∀ a b : Int, 0 ≤ a → a < 4294967296 → 0 ≤ b → b < 4294967296 → ((mx a b - mn a b) % 4294967296) * ((mx a b - mn a b) % 4294967296) = (a - b) * (a - b) := by
  intro a b h0 h1 h2 h3
  unfold mx mn
  by_cases h : a < b
  ·rw [if_pos h, if_neg (by omega), Int.emod_eq_of_lt (by omega) (by omega)]
   rw [show b - a = -(a - b) by omega, Int.neg_mul_neg]
  ·rw [if_neg h]
   by_cases h' : b < a
   ·rw [if_pos h', Int.emod_eq_of_lt (by omega) (by omega)]
   ·have : a = b := by omega
    subst this
    simp
 rw [e1 x u hx hx1 hu hu1, e1 y v hy hy1 hv hv1]
 have p1 : 0 ≤ (x - u) * (x - u) := by
  rcases Int.le_total u x with h | h
  ·exact Int.mul_nonneg (by omega) (by omega)
  ·rw [show x - u = -(u - x) by omega, Int.neg_mul_neg]; exact Int.mul_nonneg (by omega) (by omega)
 have p2 : 0 ≤ (y - v) * (y - v) := by
  rcases Int.le_total v y with h | h
  ·exact Int.mul_nonneg (by omega) (by omega)
  ·rw [show y - v = -(v - y) by omega, Int.neg_mul_neg]; exact Int.mul_nonneg (by omega) (by omega)
 have hb' : (x - u) * (x - u) + (y - v) * (y - v) < 18446744073709551616 := hb
 rw [wrap_u64 _ p1 (by omega), wrap_u64 _ p2 (by omega), wrap_u64 _ (by omega) (by omega)]
 rfl
end Go.Proofs.Ytoimgijhekahhaa.P

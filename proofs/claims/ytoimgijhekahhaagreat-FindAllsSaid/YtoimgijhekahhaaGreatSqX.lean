/- What the reference says of rows. Plain. -/
import Derived.Test.YtoimgijhekahhaaGreatJPlain
import Derived.Test.YtoimgijhekahhaaGreatPx1101
namespace Go.Proofs.YtoimgijhekahhaaGreat.P
set_option linter.unusedVariables false
set_option linter.unusedSimpArgs false
open Go.RowKit Go.Proofs.YtoimgijhekahhaaGreatOwn Go.Proofs.YtoimgijhekahhaaGreatW.PrintWords Go.Proofs.YtoimgijhekahhaaGreatW.PrintLast Go.Proofs.YtoimgijhekahhaaGreatW.PrintMore
theorem rrow (x : Row) : sphragisref09_RightRow.f x.f0 x.f1 x.f2 x.f3 = some (okR x) := by
 unfold sphragisref09_RightRow.f okR
 by_cases h1 : x.f1 < 2147483648
 ·by_cases h2 : x.f2 < 2147483648
  ·simp [h1, h2]
  ·simp [h1, h2]
 ·simp [h1]
theorem rright_l0 (l : List Row) (hl : l.length < 4611686018427387904) : ∀ (n i k : Nat), i + n = l.length → n < k → sphragisref09_Right.l0 k l (i : Int) = some (chk l i n)
 | n, i, 0, _, h => by omega
 | 0, i, k + 1, hi, _ => by
  rw [sphragisref09_Right.l0, if_neg (by omega)]
  simp [chk]
 | n + 1, i, k + 1, hi, hk => by
  rw [sphragisref09_Right.l0, if_pos (by omega), if_pos (by omega), rrow]
  simp only [Option.bind_some]
  have ih := rright_l0 l hl n (i + 1) k (by omega) (by omega)
  have hw : wrap64 ((i : Int) + 1) = ((i + 1 : Nat) : Int) := by rw [wrap64_id (by omega) (by omega)]; omega
  cases hr : okR (rd_T37 l (i : Int)) with
  | false => simp [chk, good, hr]
  | true =>
   rw [if_pos rfl]
   by_cases h0 : i = 0
   ·subst h0
    rw [if_neg (by simp), hw, ih]
    simp [chk, good, show okR (rd_T37 l 0) = true from hr]
   ·have hw2 : wrap64 ((i : Int) - 1) = ((i - 1 : Nat) : Int) := by rw [wrap64_id (by omega) (by omega)]; omega
    rw [if_pos (by omega), hw2, if_pos (by omega), if_pos (by omega)]
    by_cases hlt : (rd_T37 l ((i - 1 : Nat) : Int)).f0 < (rd_T37 l (i : Int)).f0
    ·rw [if_neg (by omega), hw, ih]
     simp [chk, good, hr, hlt]
    ·rw [if_pos (by omega)]
     simp [chk, good, hr, hlt, h0]
theorem ref_right (l : List Row) (k : Nat) (hl : l.length < 4611686018427387904) (hk : l.length < k) : sphragisref09_Right.f k l = some (rightL l) := by
 unfold sphragisref09_Right.f rightL
 by_cases h : (l.length : Int) > 1000
 ·rw [if_pos h]
  have : ¬ (l.length : Int) ≤ 1000 := by omega
  simp [this]
 ·rw [if_neg h, show (0 : Int) = ((0 : Nat) : Int) from rfl, rright_l0 l hl l.length 0 k (by omega) hk]
  have : (l.length : Int) ≤ 1000 := by omega
  simp [this]
end Go.Proofs.YtoimgijhekahhaaGreat.P

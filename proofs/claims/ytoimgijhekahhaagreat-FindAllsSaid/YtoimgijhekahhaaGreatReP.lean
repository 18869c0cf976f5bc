/- Layer 11, plain: the reference's check. -/
import Derived.Test.YtoimgijhekahhaaGreatFuP
import Derived.Test.YtoimgijhekahhaaGreatJPlainB
import Derived.Test.YtoimgijhekahhaaGreatPx12
namespace Go.Proofs.YtoimgijhekahhaaGreat.P
open Go.RowKit Go.Proofs.YtoimgijhekahhaaGreatOwn Go.Proofs.YtoimgijhekahhaaGreatW.PrintWords Go.Proofs.YtoimgijhekahhaaGreatW.PrintLast Go.Proofs.YtoimgijhekahhaaGreatW.PrintMore
set_option linter.unusedVariables false
set_option linter.unusedSimpArgs false
theorem ref_check_eq (q : Q11) (k : Nat) : sphragisref11_Check.f (k + 3) q.kind q.b0 q.b1 q.b2 q.b3 q.x q.y q.sq q.k q.after q.from_ = some (checkP q) := by
 unfold sphragisref11_Check.f checkP
 rw [cell_RightBox.eq]
 have hm : 2147483648 ≤ mx q.x q.y ↔ (q.x ≥ 2147483648 ∨ q.y ≥ 2147483648) := by unfold mx; split <;> omega
 simp only [hm]
 obtain ⟨kind, b0, b1, b2, b3, x, y, sq, kk, after, from_⟩ := q
 dsimp only
 by_cases c1 : kind < 1
 ·rw [if_pos c1, if_pos (.inl c1)]; rfl
 rw [if_neg c1]
 simp only [sphragisref11_Check.j0]
 by_cases c2 : kind > 4
 ·rw [if_pos (decide_eq_true c2), if_pos (.inr c2)]
 rw [if_neg (by rw [decide_eq_true_iff]; exact c2), if_neg (show ¬ (kind < 1 ∨ 4 < kind) by omega)]
 simp only [sphragisref11_Check.j1, sphragisref11_Check.j2, if_true, ref_RightBox.eq, Option.bind_some, Bool.false_eq_true, if_false]
 by_cases k1 : kk > 64
 ·rw [if_pos k1, if_pos (.inr (by omega))]
 rw [if_neg k1]
 by_cases k2 : kk < 0
 ·rw [if_pos k2, if_pos (.inl (by split <;> omega))]
 rw [if_neg k2]
 have hk : kind = 1 ∨ kind = 2 ∨ kind = 3 ∨ kind = 4 := by omega
 clear c1 c2 hm
 by_cases k3 : kk = 0
 ·subst k3
  rcases hk with rfl | rfl | rfl | rfl <;> by_cases hx : x ≥ 2147483648 <;> by_cases hy : y ≥ 2147483648 <;> simp [hx, hy]
 ·have k4 : ¬ kk < 1 := by omega
  have k5 : ¬ 64 < kk := by omega
  rcases hk with rfl | rfl | rfl | rfl <;> by_cases hx : x ≥ 2147483648 <;> by_cases hy : y ≥ 2147483648 <;> cases hb : boxB b0 b1 b2 b3 <;> simp [hx, hy, hb, k2, k3, k4, k5]
end Go.Proofs.YtoimgijhekahhaaGreat.P

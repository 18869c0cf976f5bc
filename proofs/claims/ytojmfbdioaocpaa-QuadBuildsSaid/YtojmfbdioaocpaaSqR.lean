/- What the reference says of cells: Size, Right, Has. Plain. -/
import Derived.Test.YtojmfbdioaocpaaSqA
import Derived.Test.YtojmfbdioaocpaaPx802
import Derived.Test.YtojmfbdioaocpaaPx9
namespace Go.Proofs.Ytojmfbdioaocpaa.P
set_option linter.unusedVariables false
set_option linter.unusedSimpArgs false
open Go.RowKit Go.Proofs.YtojmfbdioaocpaaOwn Go.Proofs.YtojmfbdioaocpaaW.PrintWords Go.Proofs.YtojmfbdioaocpaaW.PrintLast Go.Proofs.YtojmfbdioaocpaaW.PrintMore
theorem ref_Size.eq (x y l : Int) (h0 : 0 ≤ l) (h1 : l ≤ 31) : sphragisref08_Size.f x y l = some (sz l) := by
  unfold sphragisref08_Size.f
  rw [wrap_u64 l (by omega) (by omega), if_pos h0, shl_sz l h0 h1]

theorem ref_Right.eq (k : Nat) (x y l : Int) (hx : 0 ≤ x) (hx1 : x < 4294967296) (hy : 0 ≤ y) (hy1 : y < 4294967296) : sphragisref08_Right.f (k + 1) x y l = some (rightB x y l) := by
  unfold sphragisref08_Right.f
  have hno : ¬ (0 ≤ l ∧ l ≤ 31 ∧ x < 2147483648 ∧ y < 2147483648) → some false = some (rightB x y l) := by
    intro h; congr 1; symm; rw [Bool.eq_false_iff]; intro h'; have := rightB_iff.1 h'; exact h ⟨this.1, this.2.1, this.2.2.1, this.2.2.2.1⟩
  have jt : ∀ a b c, sphragisref08_Right.j0 (k + 1) true a b c = some false := fun _ _ _ => by simp only [sphragisref08_Right.j0]; rfl
  by_cases h1 : l < 0
  · rw [if_pos h1, jt]; exact hno (by omega)
  rw [if_neg h1]
  by_cases h2 : l > 31
  · rw [if_pos h2, jt]; exact hno (by omega)
  rw [if_neg h2]
  by_cases h3 : x ≥ 2147483648
  · rw [if_pos h3, jt]; exact hno (by omega)
  rw [if_neg h3]
  by_cases h4 : y ≥ 2147483648
  · rw [decide_eq_true h4, jt]; exact hno (by omega)
  rw [decide_eq_false h4]
  simp only [sphragisref08_Right.j0]
  have s1 := sz_pos l
  rw [if_neg (by simp), ref_Size.eq x y l (by omega) (by omega)]
  simp only [Option.bind_some]
  rw [if_neg (by omega), wrap_u64 x hx (by omega), wrap_u64 y hy (by omega), Int.tmod_eq_emod_of_nonneg hx, Int.tmod_eq_emod_of_nonneg hy]
  by_cases h5 : x % sz l = 0
  · rw [if_pos h5, if_neg (by omega)]
    congr 1
    rw [Bool.eq_iff_iff, beq_iff_eq, rightB_iff]
    omega
  · rw [if_neg h5]
    congr 1; symm; rw [Bool.eq_false_iff]; intro h; exact h5 (rightB_iff.1 h).2.2.2.2.1

theorem ref_Has.eq (k : Nat) (x y l u v : Int) (hx : 0 ≤ x) (hx1 : x < 4294967296) (hy : 0 ≤ y) (hy1 : y < 4294967296) (hu : 0 ≤ u) (hu1 : u < 4294967296) (hv : 0 ≤ v) (hv1 : v < 4294967296) : sphragisref08_Has.f (k + 1) x y l u v = some (hasB x y l u v) := by
  unfold sphragisref08_Has.f
  rw [ref_Right.eq k x y l hx hx1 hy hy1]
  simp only [Option.bind_some]
  cases hr : rightB x y l with
  | false => rw [if_neg (by simp)]; unfold hasB; rw [hr]; rfl
  | true =>
    obtain ⟨h0, h1, h2, h3, h4, h5⟩ := rightB_iff.1 hr
    have s1 := sz_pos l
    have s2 := sz_le l h1
    rw [if_pos rfl, ref_Size.eq x y l h0 h1]
    simp only [Option.bind_some]
    rw [wrap_u64 u hu (by omega), wrap_u64 v hv (by omega), wrap_u64 x hx (by omega), wrap_u64 y hy (by omega), wrap_u64 (x + sz l) (by omega) (by omega), wrap_u64 (y + sz l) (by omega) (by omega)]
    unfold hasB
    rw [hr]
    by_cases g1 : u ≥ x
    · rw [if_pos g1]
      by_cases g2 : v ≥ y
      · rw [if_pos g2]
        by_cases g3 : u < x + sz l
        · rw [if_pos g3]; simp [show x ≤ u from g1, show y ≤ v from g2, g3]
        · rw [if_neg g3]; simp [g3]
      · rw [if_neg g2]; simp [show ¬ y ≤ v from g2]
    · rw [if_neg g1]; simp [show ¬ x ≤ u from g1]

end Go.Proofs.Ytojmfbdioaocpaa.P

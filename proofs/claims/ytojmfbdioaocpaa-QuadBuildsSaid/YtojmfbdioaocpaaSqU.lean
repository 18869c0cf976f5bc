/- What the reference says of quarters. Plain. -/
import Derived.Test.YtojmfbdioaocpaaSqQ
import Derived.Test.YtojmfbdioaocpaaSqR
import Derived.Test.YtojmfbdioaocpaaPx10
namespace Go.Proofs.Ytojmfbdioaocpaa.P
set_option linter.unusedVariables false
set_option linter.unusedSimpArgs false
open Go.RowKit Go.Proofs.YtojmfbdioaocpaaOwn Go.Proofs.YtojmfbdioaocpaaW.PrintWords Go.Proofs.YtojmfbdioaocpaaW.PrintLast Go.Proofs.YtojmfbdioaocpaaW.PrintMore
theorem ref_Quarter.eq (k : Nat) (x y l n : Int) (hx : 0 ≤ x) (hx1 : x < 4294967296) (hy : 0 ≤ y) (hy1 : y < 4294967296) : sphragisref08_Quarter.f (k + 1) x y l n = some (quarterR x y l n) := by
  unfold sphragisref08_Quarter.f quarterR
  rw [ref_Right.eq k x y l hx hx1 hy hy1]
  simp only [Option.bind_some]
  cases hr : rightB x y l with
  | false => rw [if_neg (by simp), if_neg (by rintro ⟨h, _⟩; rw [(by simp [isQ, hr] : isQ x y l = false)] at h; simp at h)]
  | true =>
    rw [if_pos rfl]
    by_cases hl : l = 0
    · rw [if_pos hl, if_neg (by rintro ⟨h, _⟩; exact (isQ_iff.1 h).2 hl)]
    rw [if_neg hl]
    have hq : isQ x y l = true := isQ_iff.2 ⟨hr, hl⟩
    by_cases h0 : n < 0
    · rw [if_pos h0, if_neg (by omega)]
    rw [if_neg h0]
    by_cases h3 : n > 3
    · rw [if_pos h3, if_neg (by omega)]
    rw [if_neg h3, if_pos ⟨hq, by omega, by omega⟩]
    obtain ⟨r0, r1, r2, r3, r4, r5⟩ := rightB_iff.1 hr
    have s0 := sz_pos (l - 1)
    have s1 := sz_succ l (by omega)
    have s2 := sz_le l r1
    have f1 := right_far r0 r1 r2 r4
    have f2 := right_far r0 r1 r3 r5
    have e : Int.tdiv (sz l) 2 = sz (l - 1) := by rw [Int.tdiv_eq_ediv_of_nonneg (by omega)]; omega
    rw [ref_Size.eq x y l r0 r1]
    simp only [Option.bind_some]
    rw [e, wrap_u64 _ (by omega) (by omega), Int.emod_eq_of_lt (show 0 ≤ sz (l - 1) by omega) (by omega)]
    have w1 : wrap64 (l - 1) = l - 1 := by unfold wrap64; omega
    rw [w1]
    have : n = 0 ∨ n = 1 ∨ n = 2 ∨ n = 3 := by omega
    rcases this with rfl | rfl | rfl | rfl <;> simp [qX, qY, wrap64] <;> omega

end Go.Proofs.Ytojmfbdioaocpaa.P

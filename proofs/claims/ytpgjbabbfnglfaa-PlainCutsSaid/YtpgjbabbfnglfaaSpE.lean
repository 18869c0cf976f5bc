/- Layer 12, plain: the same rows, the first sixty, the head. -/
import Derived.Test.YtpgjbabbfnglfaaSpD
import Derived.Test.YtpgjbabbfnglfaaPx6
import Derived.Test.YtpgjbabbfnglfaaOpen
set_option linter.unusedVariables false
set_option linter.unusedSimpArgs false
namespace Go.Proofs.Ytpgjbabbfnglfaa.P
open Go.RowKit Go.Proofs.YtpgjbabbfnglfaaW.PrintWords Go.Proofs.YtpgjbabbfnglfaaW.PrintLast Go.Proofs.YtpgjbabbfnglfaaW.PrintMore
theorem shown256 : sphragislaw12_shown.f 256 = some true := by decide +kernel
theorem same_l0 (l : List Row) (hl : l.length < 4611686018427387904) : ∀ (n i k : Nat), i + n = l.length → n < k → sphragisref09_Same.l0 k l l (i : Int) = some true
  | n, i, 0, _, h => by omega
  | 0, i, k + 1, hi, _ => by rw [sphragisref09_Same.l0, if_neg (by omega)]
  | n + 1, i, k + 1, hi, hk => by
    have hw : wrap64 ((i : Int) + 1) = ((i + 1 : Nat) : Int) := by rw [wrap64_id (by omega) (by omega)]; omega
    rw [sphragisref09_Same.l0, if_pos (by omega), if_pos (by omega), if_pos (by omega), if_neg (by simp), hw, same_l0 l hl n (i + 1) k (by omega) (by omega)]
theorem same_self (l : List Row) (k : Nat) (hl : l.length < 4611686018427387904) (hk : l.length < k) : sphragisref09_Same.f k l l = some true := by
  unfold sphragisref09_Same.f
  rw [if_pos rfl, show (0 : Int) = ((0 : Nat) : Int) from rfl, same_l0 l hl l.length 0 k (by omega) hk]
theorem few_f (l : List Row) : sphragislaw12_few.f l = some (l.take 60) := by
  unfold sphragislaw12_few.f mn
  by_cases h : (60 : Int) < (l.length : Int)
  · rw [if_pos h, if_pos (by omega), if_pos (by omega)]; rfl
  · rw [if_neg h, if_pos (by omega), if_pos (by omega), Int.toNat_natCast, List.take_of_length_le (Nat.le_refl _), List.take_of_length_le (by omega)]
theorem few_len (l : List Row) : (l.take 60).length ≤ 60 := by rw [List.length_take]; omega
theorem applyP_len (l : List Row) (o : Opn) : (applyP l o).1.length ≤ l.length + 1 := by
  unfold applyP
  split
  · rename_i hr
    obtain ⟨_, ha, _⟩ := rightB_iff.1 hr
    have hls := len_split o.f1.f0 ha
    split
    · split
      · split
        · simp
        · split
          · simp
          · simp [putP]; split <;> simp <;> omega
      · rename_i w hx
        rw [hx] at hls
        simp at hls
        simp [putP]; split <;> simp <;> omega
    · simp
  · simp
end Go.Proofs.Ytpgjbabbfnglfaa.P

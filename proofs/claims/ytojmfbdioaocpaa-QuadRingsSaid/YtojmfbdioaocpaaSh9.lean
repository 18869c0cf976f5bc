/- Layer 9: a tree that is known is as it should be; few rows. -/
import Derived.Test.YtojmfbdioaocpaaSqW
import Derived.Test.YtojmfbdioaocpaaPx7
import Derived.Test.YtojmfbdioaocpaaPx8
set_option linter.unusedVariables false
namespace Go.Proofs.Ytojmfbdioaocpaa.P
open Go.RowKit Go.Proofs.YtojmfbdioaocpaaOwn Go.Proofs.YtojmfbdioaocpaaW.PrintWords Go.Proofs.YtojmfbdioaocpaaW.PrintLast Go.Proofs.YtojmfbdioaocpaaW.PrintMore
theorem shown64 : sphragislaw09_shown.f 64 = some true := by decide +kernel
theorem mono_le {α : Type} {f : Nat → Option α} (h : ∀ k, LeO (f k) (f (k + 1))) {n m : Nat} (hm : n ≤ m) {r : α} (hr : f n = some r) : f m = some r := by
  induction hm with
  | refl => exact hr
  | step _ ih => exact h _ r ih
theorem shown_at {k : Nat} (h : 64 ≤ k) : sphragislaw09_shown.f k = some true := mono_le (fun k => sphragislaw09_shown.mono k) h shown64
theorem few9 (l : List Row) : sphragislaw09_few.f l = some (l.take 60) := by
  unfold sphragislaw09_few.f mn
  by_cases h : 60 < (l.length : Int)
  · rw [if_pos h, if_pos (by omega), if_pos (by omega)]
    rfl
  · have : l.take 60 = l := List.take_of_length_le (by omega)
    rw [if_neg h, if_pos (by omega), if_pos (by omega), this]
    simp
end Go.Proofs.Ytojmfbdioaocpaa.P

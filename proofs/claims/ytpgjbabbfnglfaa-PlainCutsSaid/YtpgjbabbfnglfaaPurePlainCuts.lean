/- The law PlainCuts, plain: changes in two batches come to what they come to in one. -/
import Derived.Test.YtpgjbabbfnglfaaSpF
import Derived.Test.YtpgjbabbfnglfaaSpH
import Derived.Test.YtpgjbabbfnglfaaPx12
set_option linter.unusedVariables false
set_option linter.unusedSimpArgs false
namespace Go.Proofs.Ytpgjbabbfnglfaa.P
open Go.RowKit Go.Proofs.YtpgjbabbfnglfaaW.PrintWords Go.Proofs.YtpgjbabbfnglfaaW.PrintLast Go.Proofs.YtpgjbabbfnglfaaW.PrintMore
theorem goP_ok : ∀ (os : List Opn) (l : List Row) (n : Int), (goP l os n).2.2 = 0 → (goP l os n).2.1 = 0
  | [], l, n, _ => rfl
  | o :: os, l, n, h => by
    rw [goP] at h ⊢
    by_cases h0 : (applyP l o).2 = 0
    · rw [if_pos h0] at h ⊢; exact goP_ok os _ _ h
    · rw [if_neg h0] at h; exact absurd h h0
theorem goP_err : ∀ (os : List Opn) (l : List Row) (n : Int), (goP l os n).2.2 ≠ 0 → (goP l os n).1 = []
  | [], l, n, h => absurd rfl h
  | o :: os, l, n, h => by
    rw [goP] at h ⊢
    by_cases h0 : (applyP l o).2 = 0
    · rw [if_pos h0] at h ⊢; exact goP_err os _ _ h
    · rw [if_neg h0]
theorem goP_shift (m : Int) : ∀ (os : List Opn) (l : List Row) (n : Int), goP l os (n + m) = ((goP l os n).1, (if (goP l os n).2.2 = 0 then 0 else (goP l os n).2.1 + m), (goP l os n).2.2)
  | [], l, n => rfl
  | o :: os, l, n => by
    rw [goP, goP]
    by_cases h0 : (applyP l o).2 = 0
    · rw [if_pos h0, if_pos h0, show n + m + 1 = n + 1 + m by omega]; exact goP_shift m os _ _
    · rw [if_neg h0, if_neg h0]; simp [h0]
theorem goP_append : ∀ (xs ys : List Opn) (l : List Row) (n : Int), goP l (xs ++ ys) n = if (goP l xs n).2.2 = 0 then goP (goP l xs n).1 ys (n + xs.length) else goP l xs n
  | [], ys, l, n => by simp [goP]
  | o :: xs, ys, l, n => by
    rw [List.cons_append, goP, goP]
    by_cases h0 : (applyP l o).2 = 0
    · rw [if_pos h0, if_pos h0, goP_append xs ys, List.length_cons, show n + 1 + (xs.length : Int) = n + ((xs.length + 1 : Nat) : Int) by omega]
    · rw [if_neg h0, if_neg h0, if_neg (show ¬ (applyP l o).2 = 0 from h0)]
theorem goP_right : ∀ (os : List Opn) (l : List Row) (n : Int), rightB l = true → l.length + os.length < 1000 → (goP l os n).2.2 = 0 → rightB (goP l os n).1 = true
  | [], l, n, hr, _, _ => hr
  | o :: os, l, n, hr, hl, h => by
    rw [goP] at h ⊢
    by_cases h0 : (applyP l o).2 = 0
    · rw [if_pos h0] at h ⊢
      have g := goes_of h0
      have e := apply_goes (by simp at hl; omega) g
      have b := applyP_len l o
      refine goP_right os _ _ ?_ (by simp only [List.length_cons] at hl; omega) h
      rw [e]
      exact right_put (by simp at hl; omega) g
    · rw [if_neg h0] at h; exact absurd h h0
theorem goP_idx : ∀ (os : List Opn) (l : List Row) (n : Int), (goP l os n).2.1 = 0 ∨ (n ≤ (goP l os n).2.1 ∧ (goP l os n).2.1 ≤ n + os.length)
  | [], l, n => .inl rfl
  | o :: os, l, n => by
    rw [goP]
    by_cases h0 : (applyP l o).2 = 0
    · rw [if_pos h0, List.length_cons]
      rcases goP_idx os (applyP l o).1 (n + 1) with h | ⟨h, h2⟩
      · exact .inl h
      · exact .inr ⟨by omega, by omega⟩
    · rw [if_neg h0]
      exact .inr ⟨Int.le_refl _, by dsimp only; omega⟩
theorem batchP_go {l : List Row} {ops : List Opn} (hr : rightB l = true) (h1 : 0 < ops.length) (h2 : ops.length ≤ 64) : batchP l ops = goP l ops 0 := by
  unfold batchP
  rw [if_pos hr, if_neg (by omega)]
theorem shown512c : sphragislaw12_shown.f 512 = some true := at_rounds sphragislaw12_shown.mono (by decide) shown256
theorem pure_PlainCuts (l0 : List Row) (l1 : List Opn) (a2 : Int) (ok0 : ∀ s ∈ l0, wfRow s) (len0 : l0.length < 140737488355328) (ok1 : ∀ s ∈ l1, wfOp s) (len1 : l1.length < 140737488355328) (b2 : -9223372036854775808 ≤ a2 ∧ a2 ≤ 9223372036854775807) :
    sphragislaw12_PlainCuts.f 512 l0 l1 a2 = some true := by
  have h := few_len l0
  unfold sphragislaw12_PlainCuts.f
  have hm : 0 ≤ mn (l1.length : Int) 64 ∧ mn (l1.length : Int) 64 ≤ l1.length ∧ (mn (l1.length : Int) 64).toNat ≤ 64 := by unfold mn; split <;> omega
  rw [shown512c, few_f, Option.bind_some, Option.bind_some, if_pos hm.1, if_pos hm.2.1, Option.bind_some]
  generalize hy : l1.take (mn (l1.length : Int) 64).toNat = ops
  have hl : ops.length ≤ 64 := by rw [← hy, List.length_take]; omega
  generalize l0.take 60 = l at *
  clear hy hm
  by_cases h1 : a2 < 1
  · rw [if_pos h1, sphragislaw12_PlainCuts.j0, if_pos rfl]
  · rw [if_neg h1]
    by_cases h2 : a2 ≥ (ops.length : Int)
    · rw [if_pos h2, sphragislaw12_PlainCuts.j0, if_pos rfl]
    · rw [if_neg h2, quad_right l _ (by omega) (by omega), Option.bind_some, sphragislaw12_PlainCuts.j0]
      cases hr : rightB l with
      | false => rfl
      | true =>
        obtain ⟨at_, rfl⟩ := Int.eq_ofNat_of_zero_le (show 0 ≤ a2 by omega)
        rw [if_neg (by simp), plain_batch l ops _ (by omega) (by omega), Option.bind_some, if_pos (by omega), if_pos (by omega), Int.toNat_natCast]
        have ht : (ops.take at_).length = at_ := by rw [List.length_take]; omega
        have hd : (ops.drop at_).length = ops.length - at_ := List.length_drop
        rw [plain_batch l (ops.take at_) _ (by omega) (by omega), Option.bind_some]
        have e1 := batchP_go (ops := ops) hr (by omega) hl
        have e2 := batchP_go (ops := ops.take at_) hr (by omega) (by omega)
        have happ := goP_append (ops.take at_) (ops.drop at_) l 0
        rw [List.take_append_drop] at happ
        rw [e1, e2, happ]
        by_cases hf : (goP l (ops.take at_) 0).2.2 = 0
        · have hra := goP_right (ops.take at_) l 0 hr (by omega) hf
          have hla := goP_len (ops.take at_) l 0
          rw [if_pos hf, if_pos hf]
          generalize (goP l (ops.take at_) 0).1 = a at *
          rw [plain_batch a (ops.drop at_) _ (by omega) (by omega), Option.bind_some, batchP_go hra (by omega) (by omega), goP_shift ((ops.take at_).length : Int) (ops.drop at_) a 0]
          have hlb := goP_len (ops.drop at_) a 0
          have hok := goP_ok (ops.drop at_) a 0
          have herr := goP_err (ops.drop at_) a 0
          by_cases hg : (goP a (ops.drop at_) 0).2.2 = 0
          · dsimp only
            rw [if_pos hg, if_pos rfl, if_pos hg, if_pos hg, if_pos rfl, same_self _ _ (by omega) (by omega)]
            rfl
          · have hw : wrap64 ((goP a (ops.drop at_) 0).2.1 + (at_ : Int)) = (goP a (ops.drop at_) 0).2.1 + (at_ : Int) := by
              have := goP_idx (ops.drop at_) a 0
              exact wrap64_id (by omega) (by omega)
            dsimp only
            rw [if_neg hg, if_pos rfl, if_pos rfl, if_neg hg, hw, ht, if_pos rfl, herr hg]
            rfl
        · rw [if_neg hf, if_neg hf, if_pos rfl, if_pos rfl, if_pos rfl, goP_err _ _ _ hf]
          rfl
end Go.Proofs.Ytpgjbabbfnglfaa.P

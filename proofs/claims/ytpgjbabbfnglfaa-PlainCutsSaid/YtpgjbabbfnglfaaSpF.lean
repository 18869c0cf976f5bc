/- Layer 12, plain: many changes, in closed form. -/
import Derived.Test.YtpgjbabbfnglfaaSpE
import Derived.Test.YtpgjbabbfnglfaaPx10
import Derived.Test.YtpgjbabbfnglfaaPx5
set_option linter.unusedVariables false
set_option linter.unusedSimpArgs false
namespace Go.Proofs.Ytpgjbabbfnglfaa.P
open Go.RowKit Go.Proofs.YtpgjbabbfnglfaaW.PrintWords Go.Proofs.YtpgjbabbfnglfaaW.PrintLast Go.Proofs.YtpgjbabbfnglfaaW.PrintMore
/-- Changes one behind the other: rows, the place of the first that is wrong (counted from n), what is wrong. -/
def goP : List Row → List Opn → Int → List Row × Int × Int
  | l, [], _ => (l, 0, 0)
  | l, o :: os, n => if (applyP l o).2 = 0 then goP (applyP l o).1 os (n + 1) else ([], n, (applyP l o).2)
def batchP (l : List Row) (ops : List Opn) : List Row × Int × Int :=
  if rightB l = true then (if ops.length = 0 ∨ 64 < ops.length then ([], 0, 101) else goP l ops 0) else ([], 0, 80)
theorem goP_len : ∀ (ops : List Opn) (l : List Row) (n : Int), (goP l ops n).1.length ≤ l.length + ops.length
  | [], l, n => by simp [goP]
  | o :: os, l, n => by
    rw [goP]
    split
    · have h1 := goP_len os (applyP l o).1 (n + 1)
      have h2 := applyP_len l o
      simp only [List.length_cons]
      omega
    · simp
theorem batchP_len (l : List Row) (ops : List Opn) : (batchP l ops).1.length ≤ l.length + ops.length := by
  unfold batchP
  split
  · split
    · simp
    · exact goP_len _ _ _
  · simp
theorem finS_cons (q : List Row × Int) (cs : List (List Row × Int)) (h : cs ≠ []) : finS (q :: cs) = ((finS cs).1, (if (finS cs).2.2 = 0 then (finS cs).2.1 else (finS cs).2.1 + 1), (finS cs).2.2) := by
  unfold finS
  cases hc : cs.getLast? with
  | none => exact absurd (List.getLast?_eq_none_iff.1 hc) h
  | some x =>
    have : (q :: cs).getLast? = some x := by rw [List.getLast?_cons, hc]; rfl
    rw [this]
    have hpos : 0 < cs.length := List.length_pos_iff.2 h
    by_cases h0 : x.2 = 0
    · simp [h0]
    · simp [h0]; omega
theorem runS_go (k : Nat) : ∀ (ops : List Opn) (l : List Row) (n : Int), l.length + ops.length < 4611686018427387904 → l.length + ops.length < k → ops ≠ [] →
    ∃ cs, runS k l ops = some cs ∧ cs ≠ [] ∧ goP l ops n = ((finS cs).1, (if (finS cs).2.2 = 0 then (finS cs).2.1 else (finS cs).2.1 + n), (finS cs).2.2)
  | [], l, n, _, _, h => absurd rfl h
  | o :: os, l, n, hl, hk, _ => by
    simp only [List.length_cons] at hl hk
    have h2 := applyP_len l o
    rw [runS, plain_apply l o k (by omega) (by omega), Option.bind_some, goP]
    by_cases h0 : (applyP l o).2 = 0
    · rw [if_pos h0, if_pos h0]
      cases os with
      | nil =>
        refine ⟨[applyP l o], rfl, by simp, ?_⟩
        simp [finS, goP, h0]
      | cons o2 os2 =>
        obtain ⟨cs, h3, h4, h5⟩ := runS_go k (o2 :: os2) (applyP l o).1 (n + 1) (by simp only [List.length_cons] at *; omega) (by simp only [List.length_cons] at *; omega) (by simp)
        refine ⟨applyP l o :: cs, by rw [h3]; rfl, by simp, ?_⟩
        rw [h5, finS_cons _ _ h4]
        by_cases h6 : (finS cs).2.2 = 0
        · simp [h6]
        · simp [h6]; omega
    · rw [if_neg h0, if_neg h0]
      refine ⟨[applyP l o], rfl, by simp, ?_⟩
      simp [finS, h0]
theorem plain_batch (l : List Row) (ops : List Opn) (k : Nat) (hl : l.length + ops.length < 4611686018427387904) (hk : l.length + ops.length < k) : plain_Batch.f k l ops = some (batchP l ops) := by
  unfold plain_Batch.f batchP
  rw [quad_right l k (by omega) (by omega), Option.bind_some]
  cases rightB l with
  | false => rfl
  | true =>
    rw [if_pos rfl, if_pos rfl]
    by_cases h : ops.length = 0 ∨ 64 < ops.length
    · rw [if_pos h, if_pos h]
    · rw [if_neg h, if_neg h]
      obtain ⟨cs, h1, h2, h3⟩ := runS_go k ops l 0 hl hk (by intro e; rw [e] at h; simp at h)
      rw [h1, h3, Option.map_some]
      congr 1
      by_cases h4 : (finS cs).2.2 = 0
      · simp [h4]
        rw [← h4]
      · simp [h4]
theorem rd_op (l : List Opn) (j : Nat) (h : j < l.length) : rd_T28 l (j : Int) = l[j] := by unfold rd_T28; simp [List.getD, h]
theorem rbatch_l0 (ops : List Opn) (hops : ops.length ≤ 64) : ∀ (n i k : Nat) (l : List Row), i + n = ops.length → n + 2 * (l.length + n) < k → l.length + n < 4611686018427387904 → sphragisref12_Batch.l0 k l ops (i : Int) = some (goP l (ops.drop i) (i : Int))
  | n, i, 0, l, _, h, _ => by omega
  | 0, i, k + 1, l, hi, _, _ => by
    rw [sphragisref12_Batch.l0, if_neg (by omega), List.drop_eq_nil_of_le (by omega)]
    rfl
  | n + 1, i, k + 1, l, hi, hk, hl => by
    have hw : wrap64 ((i : Int) + 1) = ((i + 1 : Nat) : Int) := by rw [wrap64_id (by omega) (by omega)]; omega
    have h2 := applyP_len l (ops[i]'(by omega))
    rw [sphragisref12_Batch.l0, if_pos (by omega), if_pos (by omega), rd_op ops i (by omega), ref_apply l _ k (by omega) (by omega), Option.bind_some, List.drop_eq_getElem_cons (show i < ops.length by omega), goP, hw]
    by_cases h0 : (applyP l (ops[i]'(by omega))).2 = 0
    · rw [if_pos h0, if_pos h0, rbatch_l0 ops hops n (i + 1) k _ (by omega) (by omega) (by omega)]
      rfl
    · rw [if_neg h0, if_neg h0]
theorem ref_batch (l : List Row) (ops : List Opn) (k : Nat) (hl : l.length + ops.length < 1000) (hk : 2 * l.length + 3 * ops.length + 2 < k ∨ (64 < ops.length ∧ l.length + 2 < k)) : sphragisref12_Batch.f k l ops = some (batchP l ops) := by
  unfold sphragisref12_Batch.f batchP
  rw [ref_right l k (by omega) (by omega), Option.bind_some]
  cases rightB l with
  | false => rfl
  | true =>
    rw [if_pos rfl, if_pos rfl]
    obtain ⟨k', rfl⟩ : ∃ k', k = k' + 1 := ⟨k - 1, by omega⟩
    by_cases h1 : (ops.length : Int) < 1
    · rw [if_pos h1, sphragisref12_Batch.j0, if_pos rfl, if_pos (.inl (by omega))]
    · rw [if_neg h1, sphragisref12_Batch.j0]
      by_cases h2 : 64 < ops.length
      · have : decide ((ops.length : Int) > 64) = true := decide_eq_true (by omega)
        rw [this, if_pos rfl, if_pos (.inr h2)]
      · have : decide ((ops.length : Int) > 64) = false := decide_eq_false (by omega)
        rw [this, if_neg Bool.false_ne_true, if_neg (by omega), show (0 : Int) = ((0 : Nat) : Int) from rfl, rbatch_l0 ops (by omega) ops.length 0 k' l (by omega) (by omega) (by omega)]
        rfl
end Go.Proofs.Ytpgjbabbfnglfaa.P

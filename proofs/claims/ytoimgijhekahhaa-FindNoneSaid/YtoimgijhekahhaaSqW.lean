/- Layer 9, plain: what the printed functions compute, in closed form: Right. -/
import Derived.Test.YtoimgijhekahhaaPx401
import Derived.Test.YtoimgijhekahhaaPx5
set_option linter.unusedVariables false
set_option linter.unusedSimpArgs false
namespace Go.Proofs.Ytoimgijhekahhaa.P
open Go.RowKit Go.Proofs.YtoimgijhekahhaaW.PrintWords Go.Proofs.YtoimgijhekahhaaW.PrintLast Go.Proofs.YtoimgijhekahhaaW.PrintMore
abbrev Row := S54
def ascS (l : List S54) : Prop := l.Pairwise fun a b => a.f0 < b.f0
theorem wrap64_id {x : Int} (h0 : -9223372036854775808 ≤ x) (h1 : x ≤ 9223372036854775807) : wrap64 x = x := by
  unfold wrap64; omega
/-- Is a row right? -/
def okR (x : Row) : Bool := decide (x.f1 < 2147483648) && (decide (x.f2 < 2147483648) && decide ((x.f3.size : Int) ≤ 16))
theorem qrow (x : Row) : quad_RightRow.f x.f0 x.f1 x.f2 x.f3 = some (okR x) := by
  unfold quad_RightRow.f okR mx
  by_cases h1 : x.f1 < x.f2
  · rw [if_pos h1]
    by_cases h2 : x.f2 < 2147483648
    · have h3 : x.f1 < 2147483648 := by omega
      simp [h2, h3]
    · simp [h2]
  · rw [if_neg h1]
    by_cases h2 : x.f1 < 2147483648
    · have h3 : x.f2 < 2147483648 := by omega
      simp [h2, h3]
    · simp [h2]
theorem rd_at (l : List Row) (j : Nat) (h : j < l.length) : rd_T54 l (j : Int) = l[j] := by unfold rd_T54; simp [List.getD, h]
/-- Is the row at a place right, and behind the one ahead of it? -/
def good (l : List Row) (j : Nat) : Bool := okR (rd_T54 l (j : Int)) && (decide (j = 0) || decide ((rd_T54 l ((j - 1 : Nat) : Int)).f0 < (rd_T54 l (j : Int)).f0))
def chk (l : List Row) : Nat → Nat → Bool
  | _, 0 => true
  | i, n + 1 => good l i && chk l (i + 1) n
theorem right_l0 (l : List Row) (hl : l.length < 4611686018427387904) : ∀ (n i k : Nat), i + n = l.length → n < k → quad_Right.l0 k l l (l.length : Int) (i : Int) = some (chk l i n && decide ((l.length : Int) ≤ 1000))
  | n, i, 0, _, h => by omega
  | 0, i, k + 1, hi, _ => by
    rw [quad_Right.l0, if_neg (by omega)]
    simp [chk]
  | n + 1, i, k + 1, hi, hk => by
    rw [quad_Right.l0, if_pos (by omega), if_pos (by omega), if_pos (by omega), qrow]
    simp only [Option.bind_some]
    have ih := right_l0 l hl n (i + 1) k (by omega) (by omega)
    have hw : wrap64 ((i : Int) + 1) = ((i + 1 : Nat) : Int) := by rw [wrap64_id (by omega) (by omega)]; omega
    cases hr : okR (rd_T54 l (i : Int)) with
    | false => simp [chk, good, hr]
    | true =>
      rw [if_pos rfl]
      by_cases h0 : i = 0
      · subst h0
        rw [if_neg (by simp), hw, ih]
        simp [chk, good, show okR (rd_T54 l 0) = true from hr]
      · have hw2 : wrap64 ((i : Int) - 1) = ((i - 1 : Nat) : Int) := by rw [wrap64_id (by omega) (by omega)]; omega
        rw [if_pos (by omega), hw2, if_pos (by omega), if_pos (by omega)]
        by_cases hlt : (rd_T54 l ((i - 1 : Nat) : Int)).f0 < (rd_T54 l (i : Int)).f0
        · rw [if_neg (by omega), hw, ih]
          simp [chk, good, hr, hlt]
        · rw [if_pos (by omega)]
          simp [chk, good, hr, hlt, h0]
/-- Are rows right? -/
def rightL (l : List Row) : Bool := chk l 0 l.length && decide ((l.length : Int) ≤ 1000)
theorem quad_right (l : List Row) (k : Nat) (hl : l.length < 4611686018427387904) (hk : l.length < k) : quad_Right.f k l = some (rightL l) := by
  unfold quad_Right.f rightL
  exact right_l0 l hl l.length 0 k (by omega) hk
theorem chk_good {l : List Row} : ∀ {n i : Nat}, chk l i n = true ↔ ∀ j, i ≤ j → j < i + n → good l j = true
  | 0, i => by simp [chk]; intro j h1 h2; omega
  | n + 1, i => by
    rw [chk, Bool.and_eq_true, chk_good]
    constructor
    · rintro ⟨h1, h2⟩ j h3 h4
      by_cases h : j = i
      · rw [h]; exact h1
      · exact h2 j (by omega) (by omega)
    · intro h
      exact ⟨h i (Nat.le_refl _) (by omega), fun j h1 h2 => h j (by omega) (by omega)⟩
theorem rightL_iff {l : List Row} : rightL l = true ↔ (∀ x ∈ l, okR x = true) ∧ ascS l ∧ l.length ≤ 1000 := by
  unfold rightL
  rw [Bool.and_eq_true, chk_good, decide_eq_true_eq]
  constructor
  · rintro ⟨h, hlen⟩
    refine ⟨fun x hx => ?_, ?_, by omega⟩
    · obtain ⟨j, hj, rfl⟩ := List.getElem_of_mem hx
      have := h j (Nat.zero_le _) (by omega)
      unfold good at this
      rw [Bool.and_eq_true, rd_at l j hj] at this
      exact this.1
    · unfold ascS
      refine List.pairwise_iff_getElem.2 ?_
      intro i j hi hj hij
      have step : ∀ m, i + m + 1 < l.length → (hm : i + m + 1 < l.length) → l[i].f0 < (l[i + m + 1]).f0 := by
        intro m
        induction m with
        | zero =>
          intro _ hm
          have := h (i + 1) (Nat.zero_le _) (by omega)
          unfold good at this
          rw [Bool.and_eq_true, rd_at l (i + 1) (by omega), Nat.add_sub_cancel, rd_at l i hi] at this
          simpa using this.2
        | succ m ih =>
          intro _ hm
          have h1 := ih (by omega) (by omega)
          have := h (i + (m + 1) + 1) (Nat.zero_le _) (by omega)
          unfold good at this
          rw [Bool.and_eq_true, rd_at l (i + (m + 1) + 1) (by omega), Nat.add_sub_cancel, rd_at l (i + (m + 1)) (by omega)] at this
          have h2 : (l[i + (m + 1)]).f0 < (l[i + (m + 1) + 1]).f0 := by simpa using this.2
          exact Int.lt_trans h1 h2
      have := step (j - i - 1) (by omega) (by omega)
      have e : i + (j - i - 1) + 1 = j := by omega
      simp only [e] at this
      exact this
  · rintro ⟨h1, h2, h3⟩
    refine ⟨fun j _ hj => ?_, by omega⟩
    have hj' : j < l.length := by omega
    unfold good
    rw [Bool.and_eq_true, rd_at l j hj']
    refine ⟨h1 _ (List.getElem_mem hj'), ?_⟩
    by_cases h0 : j = 0
    · simp [h0]
    · rw [rd_at l (j - 1) (by omega)]
      have := List.pairwise_iff_getElem.1 h2 (j - 1) j (by omega) hj' (by omega)
      simp [this]
end Go.Proofs.Ytoimgijhekahhaa.P

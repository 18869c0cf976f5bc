/- The law PlainMoves, plain: a row that is moved keeps its value, and is where it was moved to. -/
import Derived.Test.YtpgjbabbfnglfaaSpH
import Derived.Test.YtpgjbabbfnglfaaPx18
set_option linter.unusedVariables false
set_option linter.unusedSimpArgs false
namespace Go.Proofs.Ytpgjbabbfnglfaa.P
open Go.RowKit Go.Proofs.YtpgjbabbfnglfaaW.PrintWords Go.Proofs.YtpgjbabbfnglfaaW.PrintLast Go.Proofs.YtpgjbabbfnglfaaW.PrintMore
theorem chk_move (id x y : Int) (v : ByteArray) : chkE ⟨2, ⟨id, x, y, v⟩⟩ = if x < 2147483648 ∧ y < 2147483648 then 0 else 80 := by
  have : okR ⟨id, x, y, ⟨#[]⟩⟩ = decide (x < 2147483648 ∧ y < 2147483648) := by
    have h16 : decide (((⟨#[]⟩ : ByteArray).size : Int) ≤ 16) = true := by decide
    unfold okR
    rw [h16, Bool.and_true, Bool.decide_and]
  unfold chkE
  dsimp only
  rw [if_neg (by decide), if_pos rfl, this]
  by_cases h : x < 2147483648 ∧ y < 2147483648
  · rw [if_pos (decide_eq_true h), if_pos h]
  · rw [if_neg (by simpa using h), if_neg h]
theorem pure_PlainMoves (l0 : List Row) (a1 a2 a3 : Int) (ok0 : ∀ s ∈ l0, wfRow s) (len0 : l0.length < 140737488355328) (b1 : 0 ≤ a1 ∧ a1 ≤ 18446744073709551615) (b2 : 0 ≤ a2 ∧ a2 ≤ 4294967295) (b3 : 0 ≤ a3 ∧ a3 ≤ 4294967295) :
    sphragislaw12_PlainMoves.f 256 l0 a1 a2 a3 = some true := by
  have h := few_len l0
  unfold sphragislaw12_PlainMoves.f
  rw [shown256, few_f]
  simp only [Option.bind_some]
  generalize l0.take 60 = l at *
  obtain ⟨v, hv⟩ : ∃ v : ByteArray, v = ⟨#[111, 116, 104, 101, 114]⟩ := ⟨_, rfl⟩
  rw [← hv]
  have e1 := plain_apply l ⟨2, ⟨a1, a2, a3, v⟩⟩ 256 (by omega) (by omega)
  dsimp only at e1
  have bm := applyP_len l ⟨2, ⟨a1, a2, a3, v⟩⟩
  rw [plain_get l a1 256 (by omega) (by omega), Option.bind_some, e1, Option.bind_some]
  by_cases hr : rightB l = true
  · have ha := (rightB_iff.1 hr).2.1
    rw [getP_right _ hr]
    cases hx : atId l a1 with
    | none =>
      have hne : (applyP l ⟨2, ⟨a1, a2, a3, v⟩⟩).2 ≠ 0 := fun h0 => by
        have := (goes_of h0).2.2 (show (2 : Int) ≠ 1 by decide)
        dsimp only at this
        rw [hx] at this
        simp at this
      have f1 : got none = (0, 0, 0, ⟨#[]⟩, 100) := rfl
      rw [f1, if_neg (show ¬ (100 : Int) = 0 by decide), if_pos trivial, bne_iff_ne.2 hne]
    | some x =>
      obtain ⟨hm, hid⟩ := atId_mem hx
      have f0 : got (some x) = (x.f0, x.f1, x.f2, x.f3, 0) := rfl
      rw [f0]
      dsimp only
      rw [if_pos rfl, plain_get _ a1 256 (by omega) (by omega), Option.bind_some]
      by_cases hxy : a2 < 2147483648 ∧ a3 < 2147483648
      · have g : goes l ⟨2, ⟨a1, a2, a3, v⟩⟩ := ⟨hr, by rw [chk_move, if_pos hxy], fun _ => by dsimp only; rw [hx]; rfl⟩
        have hn : newR l ⟨2, ⟨a1, a2, a3, v⟩⟩ = some ⟨a1, a2, a3, x.f3⟩ := by
          unfold newR
          dsimp only
          rw [if_neg (by decide), hx]
          simp
        have hl := len_put ⟨2, ⟨a1, a2, a3, v⟩⟩ ha
        dsimp only at hl
        rw [hn, hx] at hl
        simp only [Option.toList_some, List.length_singleton] at hl
        rw [if_neg (by omega), if_neg (by omega), if_pos trivial, apply_goes (by omega) g]
        dsimp only
        rw [if_pos rfl, getP_right _ (right_put (by omega) g), atId_put _ a1 ha, if_pos rfl, hn]
        have f2 : got (some ⟨a1, a2, a3, x.f3⟩) = (a1, a2, a3, x.f3, 0) := rfl
        rw [f2]
        dsimp only
        rw [if_pos rfl, if_pos (by simp [hid])]
        simp
        omega
      · have he : applyP l ⟨2, ⟨a1, a2, a3, v⟩⟩ = ([], 80) := by
          unfold applyP
          rw [if_pos hr, chk_move, if_neg hxy, if_neg (by decide)]
        rw [he]
        dsimp only
        by_cases h2 : a2 ≥ 2147483648
        · rw [if_pos h2, if_pos trivial, if_pos rfl]; rfl
        · rw [if_neg h2, if_pos (by omega), if_pos trivial, if_pos rfl]; rfl
  · have he : applyP l ⟨2, ⟨a1, a2, a3, v⟩⟩ = ([], 80) := by unfold applyP; rw [if_neg hr]
    have hg : getP l a1 = (0, 0, 0, ⟨#[]⟩, 80) := by unfold getP; rw [if_neg hr]
    rw [he, hg]
    rfl
end Go.Proofs.Ytpgjbabbfnglfaa.P

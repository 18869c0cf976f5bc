/- Layer 12, plain: both changes come to the same. -/
import Derived.Test.YtpgjbabbfnglfaaSpC
set_option linter.unusedVariables false
set_option linter.unusedSimpArgs false
namespace Go.Proofs.Ytpgjbabbfnglfaa.P
open Go.RowKit Go.Proofs.YtpgjbabbfnglfaaW.PrintWords Go.Proofs.YtpgjbabbfnglfaaW.PrintLast Go.Proofs.YtpgjbabbfnglfaaW.PrintMore
/-- What is wrong with a change alone. -/
def chkE (o : Opn) : Int := if o.f0 = 3 then 0 else if o.f0 = 2 then (if okR ⟨o.f1.f0, o.f1.f1, o.f1.f2, ⟨#[]⟩⟩ = true then 0 else 80) else if o.f0 = 1 then (if okR o.f1 = true then 0 else 80) else 2
/-- The rows behind a change that is right, of an id that is there (w) or not. -/
def putP (l : List Row) (o : Opn) (w : Option Row) : List Row :=
  under l o.f1.f0 ++ ((if o.f0 = 3 then [] else [(⟨o.f1.f0, o.f1.f1, o.f1.f2, match w with | some x => if o.f0 = 2 then x.f3 else o.f1.f3 | none => o.f1.f3⟩ : Row)]) ++ above l o.f1.f0)
def applyP (l : List Row) (o : Opn) : List Row × Int :=
  if rightB l = true then
    if chkE o = 0 then
      match atId l o.f1.f0 with
      | none => if o.f0 ≠ 1 then ([], 100) else if l.length = 1000 then ([], 82) else (putP l o none, 0)
      | some w => (putP l o (some w), 0)
    else ([], chkE o)
  else ([], 80)
theorem check_f (o : Opn) : plain_check.f o.f0 o.f1.f0 o.f1.f1 o.f1.f2 o.f1.f3 = some (chkE o) := by
  unfold plain_check.f chkE
  have h1 := qrow ⟨o.f1.f0, o.f1.f1, o.f1.f2, ⟨#[]⟩⟩
  have h2 := qrow o.f1
  dsimp only at h1
  rw [h1, h2]
  simp only [Option.bind_some]
  repeat' split
  all_goals simp_all
theorem len_split {l : List Row} (id : Int) (h : ascS l) : l.length = (under l id).length + ((atId l id).toList.length + (above l id).length) := by
  conv => lhs; rw [asc_split id h]
  simp
theorem plain_apply (l : List Row) (o : Opn) (k : Nat) (hl : l.length < 4611686018427387904) (hk : l.length < k) : plain_Apply.f k l o.f0 o.f1.f0 o.f1.f1 o.f1.f2 o.f1.f3 = some (applyP l o) := by
  unfold plain_Apply.f applyP
  rw [quad_right l k hl hk, Option.bind_some]
  cases hr : rightB l with
  | false => rfl
  | true =>
    obtain ⟨_, ha, hlen⟩ := rightB_iff.1 hr
    rw [if_pos rfl, if_pos rfl, check_f, Option.bind_some]
    by_cases hc : chkE o = 0
    case neg => rw [if_neg hc, if_neg hc]
    case pos =>
      rw [if_pos hc, if_pos hc, place_f _ ha hl, Option.bind_some]
      have hd := asc_drop o.f1.f0 ha
      cases hx : atId l o.f1.f0 with
      | none =>
        rw [hx] at hd
        simp only [Option.isSome_none, true_and, Bool.false_eq_true, false_and, if_false, Nat.add_zero]
        by_cases h1 : o.f0 = 1
        · simp only [ne_eq, h1, not_true_eq_false, if_false]
          by_cases h2 : l.length = 1000
          · simp only [h2, if_true]
          · rw [if_neg h2, if_neg h2, if_pos hlen, asc_take _ ha, hd]
            simp [putP, h1]
        · rw [if_pos h1, if_pos h1]
      | some w =>
        rw [hx] at hd
        simp only [Option.isSome_some, Bool.true_eq_false, false_and, if_false, true_and, if_true]
        have hlt : pl l o.f1.f0 < l.length := by
          have := congrArg List.length hd
          simp at this; omega
        have hg : rd_T26 l ((pl l o.f1.f0 : Nat) : Int) = w := by
          rw [rd_at l _ hlt]
          have := congrArg (fun t => t[0]?) hd
          simp [List.getElem?_drop, hlt] at this
          exact this
        have hd2 : l.drop (pl l o.f1.f0 + 1) = above l o.f1.f0 := by
          rw [← List.tail_drop, hd]; rfl
        rw [if_pos hlen, asc_take _ ha, hd2, hg]
        simp [putP]
theorem ref_apply (l : List Row) (o : Opn) (k : Nat) (hl : l.length < 4611686018427387904) (hk : 2 * l.length < k) : sphragisref12_Apply.f k l o.f0 o.f1.f0 o.f1.f1 o.f1.f2 o.f1.f3 = some (applyP l o) := by
  unfold sphragisref12_Apply.f applyP
  rw [ref_right l k hl (by omega), Option.bind_some]
  cases hr : rightB l with
  | false => rfl
  | true =>
    obtain ⟨_, ha, hlen⟩ := rightB_iff.1 hr
    have hls := len_split o.f1.f0 ha
    rw [if_pos rfl, if_pos rfl]
    by_cases hk3 : o.f0 < 1 ∨ 3 < o.f0
    · rw [if_pos hk3]
      have hc : chkE o = 2 := by unfold chkE; rw [if_neg (by omega), if_neg (by omega), if_neg (by omega)]
      rw [hc]; rfl
    · rw [if_neg hk3, rrow o.f1, Option.bind_some]
      have hwith := fun (v : ByteArray) (put : Bool) => ref_with l o.f1.f0 ⟨o.f1.f0, o.f1.f1, o.f1.f2, v⟩ put k ha hlen hk
      dsimp only at hwith
      have hg : getP l o.f1.f0 = got (atId l o.f1.f0) := by unfold getP; rw [if_pos hr]
      have h123 : o.f0 = 1 ∨ o.f0 = 2 ∨ o.f0 = 3 := by omega
      rcases h123 with h1 | h1 | h1
      · have hc : chkE o = if okR o.f1 = true then 0 else 80 := by unfold chkE; rw [if_neg (by omega), if_neg (by omega), if_pos h1]
        cases hok : okR o.f1 with
        | false => rw [if_pos (.inl ⟨h1, rfl⟩), hc, hok]; rfl
        | true =>
          rw [if_neg (by simp [h1]), ref_get l _ k hl (by omega), Option.bind_some, if_neg (by simp [h1]), hwith, Option.bind_some, hc, hok, hg]
          cases hx : atId l o.f1.f0 with
          | none =>
            rw [hx] at hls
            simp only [h1, putP]
            by_cases h2 : l.length = 1000
            · rw [if_pos (by simp at hls ⊢; omega)]; simp [h2]
            · rw [if_neg (by simp at hls ⊢; omega)]; simp [h2]
          | some w =>
            rw [hx] at hls
            simp only [h1, putP]
            rw [if_neg (by simp at hls ⊢; omega)]; simp
      · have hc : chkE o = if okR ⟨o.f1.f0, o.f1.f1, o.f1.f2, ⟨#[]⟩⟩ = true then 0 else 80 := by unfold chkE; rw [if_neg (by omega), if_pos h1]
        have hok : okR ⟨o.f1.f0, o.f1.f1, o.f1.f2, ⟨#[]⟩⟩ = (decide (o.f1.f1 < 2147483648) && decide (o.f1.f2 < 2147483648)) := by
          have h16 : decide (((⟨#[]⟩ : ByteArray).size : Int) ≤ 16) = true := by decide
          unfold okR
          rw [h16, Bool.and_true]
        by_cases hxy : 2147483648 ≤ o.f1.f1 ∨ 2147483648 ≤ o.f1.f2
        · rw [if_pos (.inr ⟨h1, hxy⟩), hc, hok]
          have : (decide (o.f1.f1 < 2147483648) && decide (o.f1.f2 < 2147483648)) = false := by
            rcases hxy with h | h
            · simp; intro; omega
            · simp; intro; omega
          rw [this]; rfl
        · rw [if_neg (by rintro (⟨h, _⟩ | ⟨_, h⟩); omega; exact hxy h), ref_get l _ k hl (by omega), Option.bind_some, hc, hok, hg]
          have : (decide (o.f1.f1 < 2147483648) && decide (o.f1.f2 < 2147483648)) = true := by simp; omega
          rw [this]
          cases hx : atId l o.f1.f0 with
          | none => simp [got, h1]
          | some w =>
            rw [hx] at hls
            rw [if_neg (by simp [got]), hwith, Option.bind_some]
            simp only [h1, putP, got]
            rw [if_neg (by simp at hls ⊢; omega)]; simp
      · have hc : chkE o = 0 := by unfold chkE; rw [if_pos h1]
        rw [if_neg (by rintro (⟨h, _⟩ | ⟨h, _⟩) <;> omega), ref_get l _ k hl (by omega), Option.bind_some, hc, hg]
        cases hx : atId l o.f1.f0 with
        | none => simp [got, h1]
        | some w =>
          rw [hx] at hls
          rw [if_neg (by simp [got]), hwith, Option.bind_some]
          simp only [h1, putP, got]
          rw [if_neg (by simp at hls ⊢; omega)]; simp
end Go.Proofs.Ytpgjbabbfnglfaa.P

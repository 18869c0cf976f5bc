/- The law PlainFull, plain: a thousand rows, and no more. -/
import Derived.Test.YtpgjbabbfnglfaaSpH
import Derived.Test.YtpgjbabbfnglfaaPx13
set_option linter.unusedVariables false
set_option linter.unusedSimpArgs false
namespace Go.Proofs.Ytpgjbabbfnglfaa.P
open Go.RowKit Go.Proofs.YtpgjbabbfnglfaaW.PrintWords Go.Proofs.YtpgjbabbfnglfaaW.PrintLast Go.Proofs.YtpgjbabbfnglfaaW.PrintMore
theorem nil16 : ((⟨#[]⟩ : ByteArray).size : Int) ≤ 16 := by decide
def rowAt (i : Nat) : Row := ⟨2 * (i : Int), 0, 0, ⟨#[]⟩⟩
def fullL (n : Nat) : List Row := (List.range n).map rowAt
theorem fullL_len (n : Nat) : (fullL n).length = n := by simp [fullL]
theorem fullL_succ (n : Nat) : fullL (n + 1) = fullL n ++ [rowAt n] := by simp [fullL, List.range_succ]
theorem fullL_mem {n : Nat} {x : Row} : x ∈ fullL n ↔ ∃ i, i < n ∧ rowAt i = x := by simp [fullL]
theorem fullL_asc (n : Nat) : ascS (fullL n) := by
  unfold ascS fullL
  rw [List.pairwise_map]
  exact List.pairwise_lt_range.imp (fun h => by simp [rowAt]; omega)
theorem fullL_ok {n : Nat} {x : Row} (h : x ∈ fullL n) : okR x = true := by
  obtain ⟨i, _, rfl⟩ := fullL_mem.1 h
  exact okR_iff.2 ⟨show (0 : Int) < 2147483648 by decide, show (0 : Int) < 2147483648 by decide, nil16⟩
theorem fullL_right {n : Nat} (h : n ≤ 1000) : rightB (fullL n) = true := rightB_iff.2 ⟨fun _ hx => fullL_ok hx, fullL_asc n, by rw [fullL_len]; exact h⟩
theorem fullL_wrong {n : Nat} (h : 1000 < n) : rightB (fullL n) = false := by
  cases hr : rightB (fullL n) with
  | false => rfl
  | true => have := (rightB_iff.1 hr).2.2; rw [fullL_len] at this; omega
theorem fullL_at (n : Nat) (id : Int) (h0 : 0 ≤ id) : (atId (fullL n) id).isSome = true ↔ id % 2 = 0 ∧ id < 2 * (n : Int) := by
  unfold atId
  rw [List.find?_isSome]
  constructor
  · rintro ⟨x, hx, he⟩
    obtain ⟨i, hi, rfl⟩ := fullL_mem.1 hx
    have : 2 * (i : Int) = id := by simpa [rowAt] using he
    omega
  · rintro ⟨h1, h2⟩
    refine ⟨rowAt (id / 2).toNat, fullL_mem.2 ⟨(id / 2).toNat, by omega, rfl⟩, ?_⟩
    simp [rowAt]
    omega
theorem full_l0 (id n : Int) (hn : 990 ≤ n ∧ n ≤ 1001) (x5 : Bool) : ∀ (m i k : Nat), (i : Int) + m = n → m < k →
    ∃ k', k' + m + 1 = k ∧ sphragislaw12_PlainFull.l0 k id n x5 (fullL i) (i : Int) = sphragislaw12_PlainFull.l0 (k' + 1) id n x5 (fullL (i + m)) n
  | m, i, 0, _, h => by omega
  | 0, i, k + 1, hi, _ => ⟨k, by omega, by rw [← hi]; simp⟩
  | m + 1, i, k + 1, hi, hk => by
    obtain ⟨k', h1, h2⟩ := full_l0 id n hn x5 m (i + 1) k (by omega) (by omega)
    refine ⟨k', by omega, ?_⟩
    have hw : wrap64 ((i : Int) + 1) = ((i + 1 : Nat) : Int) := by rw [wrap64_id (by omega) (by omega)]; omega
    have hw2 : IntKind.u64.wrap (wrap64 (2 * (i : Int))) = 2 * (i : Int) := by
      rw [wrap64_id (by omega) (by omega)]; simp [IntKind.wrap, IntKind.bits, IntKind.signed]; omega
    have e : fullL i ++ [(⟨2 * (i : Int), 0, 0, (⟨#[]⟩ : ByteArray)⟩ : Row)] = fullL (i + 1) := (fullL_succ i).symm
    conv => lhs; rw [sphragislaw12_PlainFull.l0]
    rw [if_pos (by omega), if_pos (by rw [fullL_len]; omega), hw, hw2, e, h2, show i + 1 + m = i + (m + 1) by omega]
theorem shown4096 : sphragislaw12_shown.f 4096 = some true := at_rounds sphragislaw12_shown.mono (by decide) shown256
theorem pure_PlainFull (a0 a1 : Int) (b0 : 0 ≤ a0 ∧ a0 ≤ 18446744073709551615) (b1 : -9223372036854775808 ≤ a1 ∧ a1 ≤ 9223372036854775807) : sphragislaw12_PlainFull.f 4096 a0 a1 = some true := by
  unfold sphragislaw12_PlainFull.f
  rw [shown4096, Option.bind_some]
  by_cases h1 : a1 < 990
  · rw [if_pos h1, sphragislaw12_PlainFull.j0, if_pos rfl]
  · rw [if_neg h1]
    by_cases h2 : a1 > 1001
    · rw [decide_eq_true h2, sphragislaw12_PlainFull.j0, if_pos rfl]
    · rw [decide_eq_false h2, sphragislaw12_PlainFull.j0, if_neg Bool.false_ne_true]
      obtain ⟨n, rfl⟩ := Int.eq_ofNat_of_zero_le (show 0 ≤ a1 by omega)
      obtain ⟨k', hk', hl⟩ := full_l0 a0 (n : Int) (by omega) true n 0 4095 (by omega) (by omega)
      have e0 : fullL 0 = ([] : List Row) := rfl
      rw [e0] at hl
      rw [show ((0 : Nat) : Int) = 0 from rfl, Nat.zero_add] at hl
      rw [hl, sphragislaw12_PlainFull.l0, if_neg (by omega)]
      have hap := plain_apply (fullL n) ⟨1, ⟨a0, 0, 0, ⟨#[]⟩⟩⟩ k' (by rw [fullL_len]; omega) (by rw [fullL_len]; omega)
      dsimp only at hap
      rw [hap, Option.bind_some]
      have hw2 : IntKind.u64.wrap (wrap64 (2 * (n : Int))) = 2 * (n : Int) := by
        rw [wrap64_id (by omega) (by omega)]; simp [IntKind.wrap, IntKind.bits, IntKind.signed]; omega
      have hw3 : wrap64 ((n : Int) + 1) = (n : Int) + 1 := wrap64_id (by omega) (by omega)
      rw [hw2, hw3, Int.tmod_eq_emod_of_nonneg b0.1]
      have hc : chkE ⟨1, ⟨a0, 0, 0, ⟨#[]⟩⟩⟩ = 0 := by
        have : okR ⟨a0, 0, 0, ⟨#[]⟩⟩ = true := okR_iff.2 ⟨show (0 : Int) < 2147483648 by decide, show (0 : Int) < 2147483648 by decide, nil16⟩
        simp [chkE, this]
      have hat := fullL_at n a0 b0.1
      by_cases hn : (n : Int) > 1000
      · have he : applyP (fullL n) ⟨1, ⟨a0, 0, 0, ⟨#[]⟩⟩⟩ = ([], 80) := by unfold applyP; rw [fullL_wrong (by omega), if_neg Bool.false_ne_true]
        rw [if_pos hn, he]
        rfl
      · have hr := fullL_right (n := n) (by omega)
        have hlp := len_put ⟨1, ⟨a0, 0, 0, ⟨#[]⟩⟩⟩ (fullL_asc n)
        rw [fullL_len] at hlp
        have hnew : (newR (fullL n) ⟨1, ⟨a0, 0, 0, ⟨#[]⟩⟩⟩).toList.length = 1 := by simp [newR]
        rw [hnew] at hlp
        dsimp only at hlp
        rw [if_neg hn]
        cases hx : atId (fullL n) a0 with
        | none =>
          rw [hx] at hat hlp
          have hno : ¬ (a0 % 2 = 0 ∧ a0 < 2 * (n : Int)) := fun h => by simpa using hat.2 h
          simp only [Option.toList_none, List.length_nil, Nat.add_zero] at hlp
          by_cases h1000 : n = 1000
          · have he : applyP (fullL n) ⟨1, ⟨a0, 0, 0, ⟨#[]⟩⟩⟩ = ([], 82) := by
              unfold applyP
              rw [if_pos hr, if_pos hc]
              dsimp only
              rw [hx]
              simp [fullL_len, h1000]
            rw [he]
            dsimp only
            have hz : (n : Int) = 1000 := by omega
            by_cases hm : a0 % 2 = 0
            · rw [if_pos hm, if_pos hz, if_neg (by omega), if_pos rfl, if_pos rfl]; rfl
            · rw [if_neg hm, if_pos hz, if_pos rfl, if_pos rfl]; rfl
          · have he : applyP (fullL n) ⟨1, ⟨a0, 0, 0, ⟨#[]⟩⟩⟩ = (putR (fullL n) ⟨1, ⟨a0, 0, 0, ⟨#[]⟩⟩⟩, 0) := by
              unfold applyP
              rw [if_pos hr, if_pos hc, ← putP_eq]
              dsimp only
              rw [hx]
              simp [fullL_len, h1000]
            rw [he]
            dsimp only
            have hz : ¬ (n : Int) = 1000 := by omega
            have hll : (((putR (fullL n) ⟨1, ⟨a0, 0, 0, ⟨#[]⟩⟩⟩).length : Int) == (n : Int) + 1) = true := beq_iff_eq.2 (by omega)
            by_cases hm : a0 % 2 = 0
            · rw [if_pos hm, if_neg hz, if_pos rfl, if_pos rfl, if_neg (by omega), if_neg (by omega), hll]
            · rw [if_neg hm, if_neg hz, if_pos rfl, if_pos rfl, hll]
        | some x =>
          rw [hx] at hat hlp
          obtain ⟨hm, hlt⟩ := hat.1 rfl
          simp only [Option.toList_some, List.length_singleton] at hlp
          have he : applyP (fullL n) ⟨1, ⟨a0, 0, 0, ⟨#[]⟩⟩⟩ = (putR (fullL n) ⟨1, ⟨a0, 0, 0, ⟨#[]⟩⟩⟩, 0) := by
            unfold applyP
            rw [if_pos hr, if_pos hc, ← putP_eq]
            dsimp only
            rw [hx]
          rw [he]
          dsimp only
          have hll : ((putR (fullL n) ⟨1, ⟨a0, 0, 0, ⟨#[]⟩⟩⟩).length : Int) = (n : Int) := by omega
          rw [if_pos hm]
          by_cases hz : (n : Int) = 1000
          · rw [if_pos hz, if_pos hlt, if_pos rfl, if_pos rfl, if_pos hlt, if_pos hll]
          · rw [if_neg hz, if_pos rfl, if_pos rfl, if_pos hlt, if_pos hll]
end Go.Proofs.Ytpgjbabbfnglfaa.P

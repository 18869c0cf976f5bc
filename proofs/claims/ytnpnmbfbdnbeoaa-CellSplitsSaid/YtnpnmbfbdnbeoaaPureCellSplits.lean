/- The pure statement of CellSplits. -/
import Derived.Test.YtnpnmbfbdnbeoaaSpP
import Derived.Test.YtnpnmbfbdnbeoaaSpS
import Derived.Test.YtnpnmbfbdnbeoaaPx15
namespace Go.Proofs.Ytnpnmbfbdnbeoaa.P
set_option linter.unusedVariables false
open Go.RowKit Go.Proofs.YtnpnmbfbdnbeoaaOwn Go.Proofs.YtnpnmbfbdnbeoaaW.PrintWords Go.Proofs.YtnpnmbfbdnbeoaaW.PrintLast Go.Proofs.YtnpnmbfbdnbeoaaW.PrintMore

theorem splits_step (k : Nat) {x y l u v : Int} (hx : 0 ≤ x) (hx1 : x < 4294967296) (hy : 0 ≤ y) (hy1 : y < 4294967296) (hq : isQ x y l = true) (n i : Nat) (hi : i ≤ 3) (hn : n ≤ 4) :
    sphragislaw08_CellSplits.l0 (k + 2) u v true n i x y l = sphragislaw08_CellSplits.l0 k u v true ((if hasB (qX x l i) (qY y l i) (l - 1) u v = true then n + 1 else n : Nat) : Int) ((i + 1 : Nat) : Int) x y l := by
  obtain ⟨b0, b1, b2, b3⟩ := qXY_bd hx hy hq i hi
  have w1 : wrap64 ((i : Int) + 1) = ((i + 1 : Nat) : Int) := by unfold wrap64; omega
  have w2 : wrap64 ((n : Int) + 1) = ((n + 1 : Nat) : Int) := by unfold wrap64; omega
  have e : quarterR x y l (i : Int) = (qX x l i, qY y l i, l - 1, 0) := by unfold quarterR; rw [if_pos ⟨hq, by omega, by omega⟩, Int.toNat_natCast]
  rw [sphragislaw08_CellSplits.l0, if_pos (by omega), cell_Quarter.eq x y l i hx hx1 hy hy1, e]
  simp only [Option.bind_some, if_true]
  rw [cell_Has.eq _ _ _ u v b0 (by omega) b2 (by omega)]
  simp only [Option.bind_some]
  rw [sphragislaw08_CellSplits.j1, w1, w2]
  cases hh : hasB (qX x l i) (qY y l i) (l - 1) u v with
  | false => rw [if_neg (by simp), if_neg (by simp)]
  | true =>
    rw [if_pos rfl, if_pos rfl, cell_Where.eq x y l u v hx hx1 hy hy1, where_of hx hy hq i hi hh]
    simp only [Option.bind_some, if_true]
theorem splits_skip (k : Nat) {x y l u v : Int} (hx : 0 ≤ x) (hx1 : x < 4294967296) (hy : 0 ≤ y) (hy1 : y < 4294967296) (hq : isQ x y l = false) (i : Nat) (hi : i ≤ 3) :
    sphragislaw08_CellSplits.l0 (k + 2) u v true 0 i x y l = sphragislaw08_CellSplits.l0 k u v true 0 ((i + 1 : Nat) : Int) x y l := by
  have w1 : wrap64 ((i : Int) + 1) = ((i + 1 : Nat) : Int) := by unfold wrap64; omega
  have e : quarterR x y l (i : Int) = (0, 0, 0, 2) := by unfold quarterR; rw [if_neg (by rw [hq]; simp)]
  rw [sphragislaw08_CellSplits.l0, if_pos (by omega), cell_Quarter.eq x y l i hx hx1 hy hy1, e]
  simp only [Option.bind_some]
  rw [if_neg (by decide), sphragislaw08_CellSplits.j1, w1, if_neg (by simp)]
theorem pure_CellSplits (x y l u v : Int) (hx : 0 ≤ x ∧ x ≤ 4294967295) (hy : 0 ≤ y ∧ y ≤ 4294967295) (hl : -9223372036854775808 ≤ l ∧ l ≤ 9223372036854775807) (hu : 0 ≤ u ∧ u ≤ 4294967295) (hv : 0 ≤ v ∧ v ≤ 4294967295) :
    sphragislaw08_CellSplits.f 64 x y l u v = some true := by
  have hx0 := hx.1
  have hy0 := hy.1
  have hx1 : x < 4294967296 := by omega
  have hy1 : y < 4294967296 := by omega
  unfold sphragislaw08_CellSplits.f
  rw [shown_true]
  simp only [Option.bind_some]
  have hR := cell_Right.eq x y l hx0 hx1 hy0 hy1
  cases hq : isQ x y l with
  | false =>
    have s0 := splits_skip (u := u) (v := v) 62 hx0 hx1 hy0 hy1 hq 0 (by omega)
    have s1 := splits_skip (u := u) (v := v) 60 hx0 hx1 hy0 hy1 hq 1 (by omega)
    have s2 := splits_skip (u := u) (v := v) 58 hx0 hx1 hy0 hy1 hq 2 (by omega)
    have s3 := splits_skip (u := u) (v := v) 56 hx0 hx1 hy0 hy1 hq 3 (by omega)
    refine s0.trans (s1.trans (s2.trans (s3.trans ?_)))
    show sphragislaw08_CellSplits.l0 (55 + 1) u v true 0 4 x y l = some true
    rw [sphragislaw08_CellSplits.l0, if_neg (by decide), hR]
    simp only [Option.bind_some, if_true]
    cases hr : rightB x y l with
    | false => rfl
    | true =>
      have : l = 0 := by
        apply Decidable.byContradiction
        intro hl
        have := isQ_iff.2 ⟨hr, hl⟩
        rw [hq] at this; simp at this
      rw [if_pos rfl, if_pos this]; rfl
  | true =>
    have st := fun k n i hi hn => splits_step (u := u) (v := v) k hx0 hx1 hy0 hy1 hq n i hi hn
    have fin : ∀ n : Nat, sphragislaw08_CellSplits.l0 56 u v true (n : Int) 4 x y l = if (((n : Int) == 1) == hasB x y l u v) = true then some (decide ((n : Int) ≤ 1)) else some false := by
      intro n
      show sphragislaw08_CellSplits.l0 (55 + 1) u v true (n : Int) 4 x y l = _
      rw [sphragislaw08_CellSplits.l0, if_neg (by decide), hR]
      simp only [Option.bind_some, if_true]
      obtain ⟨hr, hl⟩ := isQ_iff.1 hq
      rw [hr, if_pos rfl, if_neg hl, cell_Has.eq x y l u v hx0 hx1 hy0 hy1]
      rfl
    have a0 := st 62 0 0 (by omega) (by omega)
    refine a0.trans ?_
    have n0 : (if hasB (qX x l 0) (qY y l 0) (l - 1) u v = true then 0 + 1 else 0) ≤ 1 := by split <;> omega
    refine (st 60 _ 1 (by omega) (by omega)).trans ?_
    have n1 : (if hasB (qX x l 1) (qY y l 1) (l - 1) u v = true then (if hasB (qX x l 0) (qY y l 0) (l - 1) u v = true then 0 + 1 else 0) + 1 else (if hasB (qX x l 0) (qY y l 0) (l - 1) u v = true then 0 + 1 else 0)) ≤ 2 := by split <;> omega
    refine (st 58 _ 2 (by omega) (by omega)).trans ?_
    have n2 : (if hasB (qX x l 2) (qY y l 2) (l - 1) u v = true then (if hasB (qX x l 1) (qY y l 1) (l - 1) u v = true then (if hasB (qX x l 0) (qY y l 0) (l - 1) u v = true then 0 + 1 else 0) + 1 else (if hasB (qX x l 0) (qY y l 0) (l - 1) u v = true then 0 + 1 else 0)) + 1 else (if hasB (qX x l 1) (qY y l 1) (l - 1) u v = true then (if hasB (qX x l 0) (qY y l 0) (l - 1) u v = true then 0 + 1 else 0) + 1 else (if hasB (qX x l 0) (qY y l 0) (l - 1) u v = true then 0 + 1 else 0))) ≤ 3 := by split <;> omega
    refine (st 56 _ 3 (by omega) (by omega)).trans ?_
    refine (fin _).trans ?_
    clear n0 n1 n2 a0 st fin
    obtain ⟨p1, p2⟩ := q_parts hx0 hy0 hq u v
    cases h0 : hasB (qX x l 0) (qY y l 0) (l - 1) u v <;> cases h1 : hasB (qX x l 1) (qY y l 1) (l - 1) u v <;> cases h2 : hasB (qX x l 2) (qY y l 2) (l - 1) u v <;> cases h3 : hasB (qX x l 3) (qY y l 3) (l - 1) u v
    all_goals first
      | (have e : hasB x y l u v = false := by
           rw [Bool.eq_false_iff]; intro h
           obtain ⟨k, hk, g⟩ := p1.1 h
           have : k = 0 ∨ k = 1 ∨ k = 2 ∨ k = 3 := by omega
           rcases this with rfl | rfl | rfl | rfl <;> simp_all
         rw [e]; rfl)
      | (have e : hasB x y l u v = true := p1.2 (by first | exact ⟨0, by omega, h0⟩ | exact ⟨1, by omega, h1⟩ | exact ⟨2, by omega, h2⟩ | exact ⟨3, by omega, h3⟩)
         rw [e]; rfl)
      | (exfalso
         first
           | (have := p2 0 1 (by omega) (by omega) h0 h1; omega)
           | (have := p2 0 2 (by omega) (by omega) h0 h2; omega)
           | (have := p2 0 3 (by omega) (by omega) h0 h3; omega)
           | (have := p2 1 2 (by omega) (by omega) h1 h2; omega)
           | (have := p2 1 3 (by omega) (by omega) h1 h3; omega)
           | (have := p2 2 3 (by omega) (by omega) h2 h3; omega))

end Go.Proofs.Ytnpnmbfbdnbeoaa.P

/- What Quarter and Where say, of the program and of the reference. Plain. -/
import Derived.Test.YtnpnmbfbdnbeoaaSpA
import Derived.Test.YtnpnmbfbdnbeoaaPx13
import Derived.Test.YtnpnmbfbdnbeoaaPx2
import Derived.Test.YtnpnmbfbdnbeoaaPx3
namespace Go.Proofs.Ytnpnmbfbdnbeoaa.P
set_option linter.unusedVariables false
open Go.RowKit Go.Proofs.YtnpnmbfbdnbeoaaOwn Go.Proofs.YtnpnmbfbdnbeoaaW.PrintWords Go.Proofs.YtnpnmbfbdnbeoaaW.PrintLast Go.Proofs.YtnpnmbfbdnbeoaaW.PrintMore

/-- Quarter k's least corner. -/
def qX (x l : Int) (k : Nat) : Int := x + sz (l - 1) * ((k % 2 : Nat) : Int)
def qY (y l : Int) (k : Nat) : Int := y + sz (l - 1) * ((k / 2 : Nat) : Int)
def isQ (x y l : Int) : Bool := rightB x y l && decide (l ≠ 0)
theorem isQ_iff {x y l : Int} : isQ x y l = true ↔ rightB x y l = true ∧ l ≠ 0 := by simp [isQ]
/-- Quarter's answer. -/
def quarterR (x y l n : Int) : Int × Int × Int × Int := if isQ x y l = true ∧ 0 ≤ n ∧ n ≤ 3 then (qX x l n.toNat, qY y l n.toNat, l - 1, 0) else (0, 0, 0, 2)
/-- Where's answer. -/
def whereR (x y l u v : Int) : Int × Int :=
  if isQ x y l = true then
    (if hasB (qX x l 0) (qY y l 0) (l - 1) u v = true then (0, 0) else if hasB (qX x l 1) (qY y l 1) (l - 1) u v = true then (1, 0)
     else if hasB (qX x l 2) (qY y l 2) (l - 1) u v = true then (2, 0) else if hasB (qX x l 3) (qY y l 3) (l - 1) u v = true then (3, 0) else (0, 2))
  else (0, 2)

theorem qList_yes {x y l : Int} (hx : 0 ≤ x) (hx1 : x < 4294967296) (hy : 0 ≤ y) (hy1 : y < 4294967296) (h : isQ x y l = true) :
    qList x y l = [(0, qX x l 0, qY y l 0, l - 1), (1, qX x l 1, qY y l 1, l - 1), (2, qX x l 2, qY y l 2, l - 1), (3, qX x l 3, qY y l 3, l - 1)] := by
  obtain ⟨hr, hl⟩ := isQ_iff.1 h
  obtain ⟨r0, r1, r2, r3, r4, r5⟩ := rightB_iff.1 hr
  unfold qList
  rw [if_pos ⟨by rw [cell_Right.eq x y l hx hx1 hy hy1, hr], hl⟩, shl_sz l r0 r1]
  have e : sz l / 2 = sz (l - 1) := by rw [sz_succ l (by omega)]; omega
  rw [e]
  have hR : List.range 4 = [0, 1, 2, 3] := rfl
  rw [hR]
  simp [qAt, qX, qY]
theorem qList_no {x y l : Int} (hx : 0 ≤ x) (hx1 : x < 4294967296) (hy : 0 ≤ y) (hy1 : y < 4294967296) (h : isQ x y l = false) : qList x y l = [] := by
  unfold qList
  rw [if_neg]
  rintro ⟨h1, h2⟩
  rw [cell_Right.eq x y l hx hx1 hy hy1] at h1
  have : isQ x y l = true := isQ_iff.2 ⟨Option.some.inj h1, h2⟩
  rw [h] at this; simp at this
/-- A quarter's coordinates lie in the plane. -/
theorem qXY_bd {x y l : Int} (hx : 0 ≤ x) (hy : 0 ≤ y) (h : isQ x y l = true) (k : Nat) (hk : k ≤ 3) :
    0 ≤ qX x l k ∧ qX x l k < 2147483648 ∧ 0 ≤ qY y l k ∧ qY y l k < 2147483648 := by
  obtain ⟨hr, hl⟩ := isQ_iff.1 h
  obtain ⟨r0, r1, r2, r3, r4, r5⟩ := rightB_iff.1 hr
  have s0 := sz_pos (l - 1)
  have s1 := sz_succ l (by omega)
  have f1 := right_far r0 r1 r2 r4
  have f2 := right_far r0 r1 r3 r5
  have : k = 0 ∨ k = 1 ∨ k = 2 ∨ k = 3 := by omega
  rcases this with rfl | rfl | rfl | rfl <;> simp [qX, qY] <;> omega

theorem cell_Quarter.eq (x y l n : Int) (hx : 0 ≤ x) (hx1 : x < 4294967296) (hy : 0 ≤ y) (hy1 : y < 4294967296) : cell_Quarter.f x y l n = some (quarterR x y l n) := by
  unfold cell_Quarter.f quarterR
  rw [if_pos ⟨hx, hy⟩]
  congr 1
  cases h : isQ x y l with
  | false => rw [qList_no hx hx1 hy hy1 h]; simp
  | true =>
    rw [qList_yes hx hx1 hy hy1 h]
    by_cases hn : 0 ≤ n ∧ n ≤ 3
    · rw [if_pos ⟨rfl, hn⟩]
      have : n = 0 ∨ n = 1 ∨ n = 2 ∨ n = 3 := by omega
      rcases this with rfl | rfl | rfl | rfl <;> simp [List.find?]
    · rw [if_neg (fun h' => hn h'.2)]
      have h0 : ((0 : Int) == n) = false := beq_eq_false_iff_ne.2 (by omega)
      have h1 : ((1 : Int) == n) = false := beq_eq_false_iff_ne.2 (by omega)
      have h2 : ((2 : Int) == n) = false := beq_eq_false_iff_ne.2 (by omega)
      have h3 : ((3 : Int) == n) = false := beq_eq_false_iff_ne.2 (by omega)
      simp only [List.find?, h0, h1, h2, h3]
theorem qHas_eq {x y l : Int} (hx : 0 ≤ x) (hy : 0 ≤ y) (h : isQ x y l = true) (u v n : Int) (k : Nat) (hk : k ≤ 3) : qHas u v (n, qX x l k, qY y l k, l - 1) = hasB (qX x l k) (qY y l k) (l - 1) u v := by
  obtain ⟨b0, b1, b2, b3⟩ := qXY_bd hx hy h k hk
  unfold qHas
  simp only
  rw [cell_Has.eq _ _ _ _ _ b0 (by omega) b2 (by omega)]
  cases hasB (qX x l k) (qY y l k) (l - 1) u v <;> rfl
theorem cell_Where.eq (x y l u v : Int) (hx : 0 ≤ x) (hx1 : x < 4294967296) (hy : 0 ≤ y) (hy1 : y < 4294967296) : cell_Where.f x y l u v = some (whereR x y l u v) := by
  unfold cell_Where.f whereR
  rw [if_pos ⟨hx, hy⟩]
  congr 1
  cases h : isQ x y l with
  | false => rw [qList_no hx hx1 hy hy1 h]; simp
  | true =>
    rw [qList_yes hx hx1 hy hy1 h, if_pos rfl]
    simp only [List.find?, qHas_eq hx hy h _ _ _ 0 (by omega), qHas_eq hx hy h _ _ _ 1 (by omega), qHas_eq hx hy h _ _ _ 2 (by omega), qHas_eq hx hy h _ _ _ 3 (by omega)]
    cases hasB (qX x l 0) (qY y l 0) (l - 1) u v
    · cases hasB (qX x l 1) (qY y l 1) (l - 1) u v
      · cases hasB (qX x l 2) (qY y l 2) (l - 1) u v
        · cases hasB (qX x l 3) (qY y l 3) (l - 1) u v <;> rfl
        · rfl
      · rfl
    · rfl

theorem ref_Quarter.eq (k : Nat) (x y l n : Int) (hx : 0 ≤ x) (hx1 : x < 4294967296) (hy : 0 ≤ y) (hy1 : y < 4294967296) : sphragisref08_Quarter.f (k + 1) x y l n = some (quarterR x y l n) := by
  unfold sphragisref08_Quarter.f quarterR
  rw [ref_Right.eq k x y l hx hx1 hy hy1]
  simp only [Option.bind_some]
  cases hr : rightB x y l with
  | false => rw [if_neg (by simp), if_neg (by rintro ⟨h, _⟩; rw [(by simp [isQ, hr] : isQ x y l = false)] at h; simp at h)]
  | true =>
    rw [if_pos rfl]
    by_cases hl : l = 0
    · rw [if_pos hl, if_neg (by rintro ⟨h, _⟩; exact (isQ_iff.1 h).2 hl)]
    rw [if_neg hl]
    have hq : isQ x y l = true := isQ_iff.2 ⟨hr, hl⟩
    by_cases h0 : n < 0
    · rw [if_pos h0, if_neg (by omega)]
    rw [if_neg h0]
    by_cases h3 : n > 3
    · rw [if_pos h3, if_neg (by omega)]
    rw [if_neg h3, if_pos ⟨hq, by omega, by omega⟩]
    obtain ⟨r0, r1, r2, r3, r4, r5⟩ := rightB_iff.1 hr
    have s0 := sz_pos (l - 1)
    have s1 := sz_succ l (by omega)
    have s2 := sz_le l r1
    have f1 := right_far r0 r1 r2 r4
    have f2 := right_far r0 r1 r3 r5
    have e : Int.tdiv (sz l) 2 = sz (l - 1) := by rw [Int.tdiv_eq_ediv_of_nonneg (by omega)]; omega
    rw [ref_Size.eq x y l r0 r1]
    simp only [Option.bind_some]
    rw [e, wrap_u64 _ (by omega) (by omega), Int.emod_eq_of_lt (show 0 ≤ sz (l - 1) by omega) (by omega)]
    have w1 : wrap64 (l - 1) = l - 1 := by unfold wrap64; omega
    rw [w1]
    have : n = 0 ∨ n = 1 ∨ n = 2 ∨ n = 3 := by omega
    rcases this with rfl | rfl | rfl | rfl <;> simp [qX, qY, wrap64] <;> omega

theorem ref_Where.stop (k : Nat) (u v x y l : Int) : sphragisref08_Where.l0 (k + 1) u v 4 x y l = some (0, 2) := by simp only [sphragisref08_Where.l0]; rfl
theorem ref_Where.step (k : Nat) (u v x y l : Int) (i : Nat) (hi : i < 4) (hx : 0 ≤ x) (hx1 : x < 4294967296) (hy : 0 ≤ y) (hy1 : y < 4294967296) (hu : 0 ≤ u) (hu1 : u < 4294967296) (hv : 0 ≤ v) (hv1 : v < 4294967296) :
    sphragisref08_Where.l0 (k + 2) u v i x y l = if isQ x y l = true ∧ hasB (qX x l i) (qY y l i) (l - 1) u v = true then some ((i : Int), 0) else sphragisref08_Where.l0 (k + 1) u v ((i + 1 : Nat) : Int) x y l := by
  have hw : wrap64 ((i : Int) + 1) = ((i + 1 : Nat) : Int) := by unfold wrap64; omega
  rw [sphragisref08_Where.l0, if_pos (by omega), ref_Quarter.eq k x y l i hx hx1 hy hy1, hw]
  simp only [Option.bind_some]
  unfold quarterR
  cases hq : isQ x y l with
  | false =>
    rw [if_neg (by simp), if_neg (by simp)]
    simp only
    rw [ref_Has.eq k 0 0 0 u v (by omega) (by omega) (by omega) (by omega) hu hu1 hv hv1]
    simp
  | true =>
    obtain ⟨b0, b1, b2, b3⟩ := qXY_bd hx hy hq i (by omega)
    rw [if_pos ⟨rfl, by omega, by omega⟩]
    simp only [Int.toNat_natCast]
    rw [ref_Has.eq k _ _ _ u v b0 (by omega) b2 (by omega) hu hu1 hv hv1]
    simp only [Option.bind_some, if_true, true_and]
theorem ref_Where.eq (k : Nat) (x y l u v : Int) (hx : 0 ≤ x) (hx1 : x < 4294967296) (hy : 0 ≤ y) (hy1 : y < 4294967296) (hu : 0 ≤ u) (hu1 : u < 4294967296) (hv : 0 ≤ v) (hv1 : v < 4294967296) : sphragisref08_Where.f (k + 5) x y l u v = some (whereR x y l u v) := by
  unfold sphragisref08_Where.f whereR
  have s0 := ref_Where.step (k + 3) u v x y l 0 (by omega) hx hx1 hy hy1 hu hu1 hv hv1
  have s1 := ref_Where.step (k + 2) u v x y l 1 (by omega) hx hx1 hy hy1 hu hu1 hv hv1
  have s2 := ref_Where.step (k + 1) u v x y l 2 (by omega) hx hx1 hy hy1 hu hu1 hv hv1
  have s3 := ref_Where.step k u v x y l 3 (by omega) hx hx1 hy hy1 hu hu1 hv hv1
  have s4 : sphragisref08_Where.l0 (k + 1) u v ((3 + 1 : Nat) : Int) x y l = some (0, 2) := ref_Where.stop k u v x y l
  refine s0.trans ?_
  have e1 := s1
  rw [s3.trans (by rw [s4])] at s2
  rw [s2] at s1
  rw [s1]
  cases isQ x y l
  · simp
  · simp only [true_and, if_true]
    cases hasB (qX x l 0) (qY y l 0) (l - 1) u v
    · cases hasB (qX x l 1) (qY y l 1) (l - 1) u v
      · cases hasB (qX x l 2) (qY y l 2) (l - 1) u v
        · cases hasB (qX x l 3) (qY y l 3) (l - 1) u v <;> rfl
        · rfl
      · rfl
    · rfl

end Go.Proofs.Ytnpnmbfbdnbeoaa.P

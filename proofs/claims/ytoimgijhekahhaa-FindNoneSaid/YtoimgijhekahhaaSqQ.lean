/- What Quarter and Where say, of the program and of the reference. Plain. -/
import Derived.Test.YtoimgijhekahhaaSqA
import Derived.Test.YtoimgijhekahhaaPx6
namespace Go.Proofs.Ytoimgijhekahhaa.P
set_option linter.unusedVariables false
open Go.RowKit Go.Proofs.YtoimgijhekahhaaOwn Go.Proofs.YtoimgijhekahhaaW.PrintWords Go.Proofs.YtoimgijhekahhaaW.PrintLast Go.Proofs.YtoimgijhekahhaaW.PrintMore

/-- Quarter k's least corner. -/
def qX (x l : Int) (k : Nat) : Int := x + sz (l - 1) * ((k % 2 : Nat) : Int)
def qY (y l : Int) (k : Nat) : Int := y + sz (l - 1) * ((k / 2 : Nat) : Int)
def isQ (x y l : Int) : Bool := rightB x y l && decide (l ≠ 0)
theorem isQ_iff {x y l : Int} : isQ x y l = true ↔ rightB x y l = true ∧ l ≠ 0 := by simp [isQ]
/-- Quarter's answer. -/
def quarterR (x y l n : Int) : Int × Int × Int × Int := if isQ x y l = true ∧ 0 ≤ n ∧ n ≤ 3 then (qX x l n.toNat, qY y l n.toNat, l - 1, 0) else (0, 0, 0, 2)
/-- Where's answer. -/
def whereR (x y l u v : Int) : Int × Int :=
  if isQ x y l = true then
    (if hasB (qX x l 0) (qY y l 0) (l - 1) u v = true then (0, 0) else if hasB (qX x l 1) (qY y l 1) (l - 1) u v = true then (1, 0)
     else if hasB (qX x l 2) (qY y l 2) (l - 1) u v = true then (2, 0) else if hasB (qX x l 3) (qY y l 3) (l - 1) u v = true then (3, 0) else (0, 2))
  else (0, 2)

theorem qList_yes {x y l : Int} (hx : 0 ≤ x) (hx1 : x < 4294967296) (hy : 0 ≤ y) (hy1 : y < 4294967296) (h : isQ x y l = true) :
    qList x y l = [(0, qX x l 0, qY y l 0, l - 1), (1, qX x l 1, qY y l 1, l - 1), (2, qX x l 2, qY y l 2, l - 1), (3, qX x l 3, qY y l 3, l - 1)] := by
  obtain ⟨hr, hl⟩ := isQ_iff.1 h
  obtain ⟨r0, r1, r2, r3, r4, r5⟩ := rightB_iff.1 hr
  unfold qList
  rw [if_pos ⟨by rw [cell_Right.eq x y l hx hx1 hy hy1, hr], hl⟩, shl_sz l r0 r1]
  have e : sz l / 2 = sz (l - 1) := by rw [sz_succ l (by omega)]; omega
  rw [e]
  have hR : List.range 4 = [0, 1, 2, 3] := rfl
  rw [hR]
  simp [qAt, qX, qY]
theorem qList_no {x y l : Int} (hx : 0 ≤ x) (hx1 : x < 4294967296) (hy : 0 ≤ y) (hy1 : y < 4294967296) (h : isQ x y l = false) : qList x y l = [] := by
  unfold qList
  rw [if_neg]
  rintro ⟨h1, h2⟩
  rw [cell_Right.eq x y l hx hx1 hy hy1] at h1
  have : isQ x y l = true := isQ_iff.2 ⟨Option.some.inj h1, h2⟩
  rw [h] at this; simp at this
/-- A quarter's coordinates lie in the plane. -/
theorem qXY_bd {x y l : Int} (hx : 0 ≤ x) (hy : 0 ≤ y) (h : isQ x y l = true) (k : Nat) (hk : k ≤ 3) :
    0 ≤ qX x l k ∧ qX x l k < 2147483648 ∧ 0 ≤ qY y l k ∧ qY y l k < 2147483648 := by
  obtain ⟨hr, hl⟩ := isQ_iff.1 h
  obtain ⟨r0, r1, r2, r3, r4, r5⟩ := rightB_iff.1 hr
  have s0 := sz_pos (l - 1)
  have s1 := sz_succ l (by omega)
  have f1 := right_far r0 r1 r2 r4
  have f2 := right_far r0 r1 r3 r5
  have : k = 0 ∨ k = 1 ∨ k = 2 ∨ k = 3 := by omega
  rcases this with rfl | rfl | rfl | rfl <;> simp [qX, qY] <;> omega

theorem qHas_eq {x y l : Int} (hx : 0 ≤ x) (hy : 0 ≤ y) (h : isQ x y l = true) (u v n : Int) (k : Nat) (hk : k ≤ 3) : qHas u v (n, qX x l k, qY y l k, l - 1) = hasB (qX x l k) (qY y l k) (l - 1) u v := by
  obtain ⟨b0, b1, b2, b3⟩ := qXY_bd hx hy h k hk
  unfold qHas
  simp only
  rw [cell_Has.eq _ _ _ _ _ b0 (by omega) b2 (by omega)]
  cases hasB (qX x l k) (qY y l k) (l - 1) u v <;> rfl
theorem cell_Where.eq (x y l u v : Int) (hx : 0 ≤ x) (hx1 : x < 4294967296) (hy : 0 ≤ y) (hy1 : y < 4294967296) : cell_Where.f x y l u v = some (whereR x y l u v) := by
  unfold cell_Where.f whereR
  rw [if_pos ⟨hx, hy⟩]
  congr 1
  cases h : isQ x y l with
  | false => rw [qList_no hx hx1 hy hy1 h]; simp
  | true =>
    rw [qList_yes hx hx1 hy hy1 h, if_pos rfl]
    simp only [List.find?, qHas_eq hx hy h _ _ _ 0 (by omega), qHas_eq hx hy h _ _ _ 1 (by omega), qHas_eq hx hy h _ _ _ 2 (by omega), qHas_eq hx hy h _ _ _ 3 (by omega)]
    cases hasB (qX x l 0) (qY y l 0) (l - 1) u v
    · cases hasB (qX x l 1) (qY y l 1) (l - 1) u v
      · cases hasB (qX x l 2) (qY y l 2) (l - 1) u v
        · cases hasB (qX x l 3) (qY y l 3) (l - 1) u v <;> rfl
        · rfl
      · rfl
    · rfl

end Go.Proofs.Ytoimgijhekahhaa.P

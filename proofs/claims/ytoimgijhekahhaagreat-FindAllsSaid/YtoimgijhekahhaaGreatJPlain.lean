/- What Right, RightBox, Has and In say, of the program and of the reference, as one Bool each. Plain: no Go and no memory.; What Quarter and Where say, of the program and of the reference. Plain.; The quarters of a cell part its points. Plain.; What Least says, of the program and of the reference. Plain.; Layer 9, plain: what the printed functions compute, in closed form: Right.; What Far says, of the program. Plain.; What Touches says, of the program. Plain.; Layer 9, plain: the least cell that has all points of rows: the program's and the reference's are the same.; Layer 9, plain: the tree of rows: the program's is the closed one.; Layer 9, plain: the parts of rows: they are the rows, two or more are not empty.; Layer 9, plain: Build in closed form.; Layer 9, plain: the rows of a tree.; Layer 9, plain: rows near enough, of the tree and of the rows.; Layer 9, plain: rows in a box, of the tree and of the rows.; Layer 9, plain: two lists of rows that are the same.; Layer 9, plain: the nearest rows, of the tree and of the rows. -/
import Derived.Laws.BitsAllLaws
import Derived.Laws.Bits64
import Derived.Test.YtoimgijhekahhaaGreatPx5
import Derived.Test.YtoimgijhekahhaaGreatPx6
import Derived.Lib.ItoaNum
import Derived.Test.YtoimgijhekahhaaGreatPx301
import Derived.Test.YtoimgijhekahhaaGreatPx4
import Derived.Test.YtoimgijhekahhaaGreatPx905
import Derived.Test.YtoimgijhekahhaaGreatPx903
import Derived.Test.YtoimgijhekahhaaGreatPx7
import Derived.Test.YtoimgijhekahhaaGreatOpen
import Derived.OpenShut
import Derived.Test.YtoimgijhekahhaaGreatPx902
import Derived.Test.YtoimgijhekahhaaGreatPx8
import Derived.Test.YtoimgijhekahhaaGreatPx801
import Derived.Test.YtoimgijhekahhaaGreatPx9
import Derived.Test.YtoimgijhekahhaaGreatPx901
import Derived.Test.YtoimgijhekahhaaGreatPx3
import Derived.Test.YtoimgijhekahhaaGreatNearD
namespace Go.Proofs.YtoimgijhekahhaaGreat.P
set_option linter.unusedVariables false
open Go.RowKit Go.Proofs.YtoimgijhekahhaaGreatOwn Go.Proofs.YtoimgijhekahhaaGreatW.PrintWords Go.Proofs.YtoimgijhekahhaaGreatW.PrintLast Go.Proofs.YtoimgijhekahhaaGreatW.PrintMore
def sz (l : Int) : Int := ((2 ^ l.toNat : Nat) : Int)
theorem sz_pos (l : Int) : 1 ≤ sz l := by unfold sz; have := Nat.two_pow_pos l.toNat; omega
theorem sz_le (l : Int) (h : l ≤ 31) : sz l ≤ 2147483648 := by
 unfold sz
 have : 2 ^ l.toNat ≤ 2 ^ 31 := Nat.pow_le_pow_right (by decide) (by omega)
 omega
theorem sz_succ (l : Int) (h : 1 ≤ l) : sz l = 2 * sz (l - 1) := by
 unfold sz
 obtain ⟨n, rfl⟩ := Int.eq_ofNat_of_zero_le (show 0 ≤ l by omega)
 cases n with
 | zero => simp at h
 | succ n =>
  have : (((n + 1 : Nat) : Int) - 1).toNat = n := by omega
  rw [this, Int.toNat_natCast, Nat.pow_succ]
  omega
theorem shl_sz (l : Int) (h0 : 0 ≤ l) (h1 : l ≤ 31) : shl .u64 1 l = sz l := by rw [shl_pow l h0 h1, two_pow]; rfl
theorem wrap_u64 (n : Int) (h0 : 0 ≤ n) (h1 : n < 18446744073709551616) : IntKind.u64.wrap n = n := by rw [IntKind.wrap_u64]; omega
def rightB (x y l : Int) : Bool := decide (0 ≤ l) && decide (l ≤ 31) && decide (x < 2147483648) && decide (y < 2147483648) && decide (x % sz l = 0) && decide (y % sz l = 0)
theorem rightB_iff {x y l : Int} : rightB x y l = true ↔ 0 ≤ l ∧ l ≤ 31 ∧ x < 2147483648 ∧ y < 2147483648 ∧ x % sz l = 0 ∧ y % sz l = 0 := by
 simp [rightB, and_assoc]
def boxB (a b c d : Int) : Bool := decide (a ≤ c) && decide (b ≤ d) && decide (c < 2147483648) && decide (d < 2147483648)
theorem boxB_iff {a b c d : Int} : boxB a b c d = true ↔ a ≤ c ∧ b ≤ d ∧ c < 2147483648 ∧ d < 2147483648 := by simp [boxB, and_assoc]
def hasB (x y l u v : Int) : Bool := rightB x y l && decide (x ≤ u) && decide (y ≤ v) && decide (u < x + sz l) && decide (v < y + sz l)
theorem hasB_iff {x y l u v : Int} : hasB x y l u v = true ↔ rightB x y l = true ∧ x ≤ u ∧ y ≤ v ∧ u < x + sz l ∧ v < y + sz l := by simp [hasB, and_assoc]
def inB (a b c d u v : Int) : Bool := boxB a b c d && decide (a ≤ u) && decide (u ≤ c) && decide (b ≤ v) && decide (v ≤ d)
theorem inB_iff {a b c d u v : Int} : inB a b c d u v = true ↔ boxB a b c d = true ∧ a ≤ u ∧ u ≤ c ∧ b ≤ v ∧ v ≤ d := by simp [inB, and_assoc]
theorem or_and_low (x y n : Nat) : ((x ||| y) &&& (2 ^ n - 1) = 0) ↔ (x % 2 ^ n = 0 ∧ y % 2 ^ n = 0) := by
 rw [Nat.and_two_pow_sub_one_eq_mod, Nat.or_mod_two_pow, Nat.or_eq_zero_iff]
theorem right_low (x y l : Int) (hx : 0 ≤ x) (hx1 : x < 4294967296) (hy : 0 ≤ y) (hy1 : y < 4294967296) (h0 : 0 ≤ l) (h1 : l ≤ 31) :
  (Go.bits .and .u32 (Go.bits .or .u32 x y) ((IntKind.u64.wrap (shl .u64 1 l - 1)) % 4294967296) = 0) ↔ (x % sz l = 0 ∧ y % sz l = 0) := by
 have s1 := sz_pos l
 have s2 := sz_le l h1
 rw [shl_sz l h0 h1, wrap_u64 _ (by omega) (by omega)]
 obtain ⟨a, rfl⟩ := Int.eq_ofNat_of_zero_le hx
 obtain ⟨b, rfl⟩ := Int.eq_ofNat_of_zero_le hy
 have e : (sz l - 1) % 4294967296 = ((2 ^ l.toNat - 1 : Nat) : Int) := by
  have := Nat.two_pow_pos l.toNat
  unfold sz at s1 s2 ⊢
  omega
 rw [e, u32_or_nat a b (by omega) (by omega)]
 have hlt : a ||| b < 4294967296 := Nat.or_lt_two_pow (n := 32) (by omega) (by omega)
 rw [u32_and_nat _ _ hlt (by have : 2 ^ l.toNat ≤ 2 ^ 31 := (Nat.pow_le_pow_right (by decide) (by omega)); omega)]
 have := or_and_low a b l.toNat
 unfold sz
 constructor
 ·intro h
  have h' : (a ||| b) &&& (2 ^ l.toNat - 1) = 0 := by omega
  have := this.1 h'
  omega
 ·intro h
  have := this.2 ⟨by omega, by omega⟩
  omega
theorem cell_Right.eq (x y l : Int) (hx : 0 ≤ x) (hx1 : x < 4294967296) (hy : 0 ≤ y) (hy1 : y < 4294967296) : cell_Right.f x y l = some (rightB x y l) := by
 unfold cell_Right.f cell_size.f
 by_cases h1 : l < 0
 ·rw [if_pos h1]; congr 1; symm; rw [Bool.eq_false_iff]; intro h; have := (rightB_iff.1 h).1; omega
 ·rw [if_neg h1]
  by_cases h2 : l > 31
  ·rw [if_pos h2]; congr 1; symm; rw [Bool.eq_false_iff]; intro h; have := (rightB_iff.1 h).2.1; omega
  ·rw [if_neg h2, if_pos (by omega)]
   simp only [Option.bind_some]
   have hl := right_low x y l hx hx1 hy hy1 (by omega) (by omega)
   by_cases h3 : x % sz l = 0 ∧ y % sz l = 0
   ·rw [if_pos (hl.2 h3)]
    congr 1
    rw [Bool.eq_iff_iff, decide_eq_true_iff, rightB_iff]
    unfold mx
    constructor
    ·intro h; refine ⟨by omega, by omega, ?_, ?_, h3.1, h3.2⟩ <;> (split at h <;> omega)
    ·intro h; split <;> omega
   ·rw [if_neg (fun h => h3 (hl.1 h))]
    congr 1; symm; rw [Bool.eq_false_iff]; intro h; exact h3 ⟨(rightB_iff.1 h).2.2.2.2.1, (rightB_iff.1 h).2.2.2.2.2⟩
theorem cell_RightBox.eq (a b c d : Int) : cell_RightBox.f a b c d = some (boxB a b c d) := by
 unfold cell_RightBox.f mx
 by_cases h1 : a ≤ c
 ·rw [if_pos h1]
  by_cases h2 : b ≤ d
  ·rw [if_pos h2]; congr 1; rw [Bool.eq_iff_iff, decide_eq_true_iff, boxB_iff]
   constructor
   ·intro h; split at h <;> omega
   ·intro h; split <;> omega
  ·rw [if_neg h2]; congr 1; symm; rw [Bool.eq_false_iff]; intro h; exact h2 (boxB_iff.1 h).2.1
 ·rw [if_neg h1]; congr 1; symm; rw [Bool.eq_false_iff]; intro h; exact h1 (boxB_iff.1 h).1
theorem in_chain (a b c d u v : Int) : (if boxB a b c d = true then (if u ≥ a then (if u ≤ c then (if v ≥ b then (some (decide (v ≤ d))) else (some false)) else (some false)) else (some false)) else (some false)) = some (inB a b c d u v) := by
 unfold inB
 cases boxB a b c d
 ·rfl
 ·rw [if_pos rfl]
  by_cases h1 : u ≥ a
  ·rw [if_pos h1]
   by_cases h2 : u ≤ c
   ·rw [if_pos h2]
    by_cases h3 : v ≥ b
    ·rw [if_pos h3]; simp [show a ≤ u from h1, h2, show b ≤ v from h3]
    ·rw [if_neg h3]; simp [show ¬ b ≤ v from h3]
   ·rw [if_neg h2]; simp [h2]
  ·rw [if_neg h1]; simp [show ¬ a ≤ u from h1]
theorem cell_In.eq (a b c d u v : Int) : cell_In.f a b c d u v = some (inB a b c d u v) := by
 unfold cell_In.f; rw [cell_RightBox.eq]; exact in_chain a b c d u v
theorem right_far {x l : Int} (h0 : 0 ≤ l) (h1 : l ≤ 31) (h2 : x < 2147483648) (h4 : x % sz l = 0) : x + sz l ≤ 2147483648 := by
 have s1 := sz_pos l
 have e : (2147483648 : Int) % sz l = 0 := by
  obtain ⟨n, rfl⟩ := Int.eq_ofNat_of_zero_le h0
  unfold sz
  rw [Int.toNat_natCast]
  have : (2147483648 : Nat) % 2 ^ n = 0 := Nat.mod_eq_zero_of_dvd (Nat.pow_dvd_pow 2 (show n ≤ 31 by omega))
  rw [show (2147483648 : Int) = ((2147483648 : Nat) : Int) from rfl, ← Int.natCast_emod, this]
  rfl
 have d1 := Int.mul_ediv_add_emod x (sz l)
 have d2 := Int.mul_ediv_add_emod 2147483648 (sz l)
 rw [h4] at d1
 rw [e] at d2
 have hlt : x / sz l < 2147483648 / sz l := by
  apply Int.lt_of_mul_lt_mul_left (a := sz l) _ (by omega)
  omega
 have : sz l * (x / sz l + 1) ≤ sz l * (2147483648 / sz l) := Int.mul_le_mul_of_nonneg_left (by omega) (by omega)
 rw [Int.mul_add, Int.mul_one] at this
 omega
theorem cell_all.eq (x y l : Int) (hx : 0 ≤ x) (hy : 0 ≤ y) (h : rightB x y l = true) : cell_all.f x y l = some (x, y, x + sz l - 1, y + sz l - 1) := by
 obtain ⟨h0, h1, h2, h3, h4, h5⟩ := rightB_iff.1 h
 have s1 := sz_pos l
 have s2 := sz_le l h1
 have f1 := right_far h0 h1 h2 h4
 have f2 := right_far h0 h1 h3 h5
 unfold cell_all.f cell_size.f
 rw [if_pos h0]
 simp only [Option.bind_some]
 rw [shl_sz l h0 h1, wrap_u64 _ (by omega) (by omega), Int.emod_eq_of_lt (by omega) (by omega), Int.emod_eq_of_lt (by omega) (by omega)]
 congr 1
 simp only [Prod.mk.injEq, true_and]
 omega
theorem cell_Has.eq (x y l u v : Int) (hx : 0 ≤ x) (hx1 : x < 4294967296) (hy : 0 ≤ y) (hy1 : y < 4294967296) : cell_Has.f x y l u v = some (hasB x y l u v) := by
 unfold cell_Has.f
 rw [cell_Right.eq x y l hx hx1 hy hy1]
 simp only [Option.bind_some]
 cases hr : rightB x y l with
 | false => rw [if_neg (by simp)]; unfold hasB; rw [hr]; rfl
 | true =>
  obtain ⟨h0, h1, h2, h3, h4, h5⟩ := rightB_iff.1 hr
  have s1 := sz_pos l
  have f1 := right_far h0 h1 h2 h4
  have f2 := right_far h0 h1 h3 h5
  rw [if_pos rfl, cell_all.eq x y l hx hy hr]
  simp only [Option.bind_some]
  rw [cell_In.eq]
  simp only [Option.bind_some]
  congr 1
  rw [Bool.eq_iff_iff, inB_iff, hasB_iff, boxB_iff]
  simp only [hr, true_and]
  omega
end Go.Proofs.YtoimgijhekahhaaGreat.P
namespace Go.Proofs.YtoimgijhekahhaaGreat.P
set_option linter.unusedVariables false
open Go.RowKit Go.Proofs.YtoimgijhekahhaaGreatOwn Go.Proofs.YtoimgijhekahhaaGreatW.PrintWords Go.Proofs.YtoimgijhekahhaaGreatW.PrintLast Go.Proofs.YtoimgijhekahhaaGreatW.PrintMore
def qX (x l : Int) (k : Nat) : Int := x + sz (l - 1) * ((k % 2 : Nat) : Int)
def qY (y l : Int) (k : Nat) : Int := y + sz (l - 1) * ((k / 2 : Nat) : Int)
def isQ (x y l : Int) : Bool := rightB x y l && decide (l ≠ 0)
theorem isQ_iff {x y l : Int} : isQ x y l = true ↔ rightB x y l = true ∧ l ≠ 0 := by simp [isQ]
def whereR (x y l u v : Int) : Int × Int :=
 if isQ x y l = true then
  (if hasB (qX x l 0) (qY y l 0) (l - 1) u v = true then (0, 0) else if hasB (qX x l 1) (qY y l 1) (l - 1) u v = true then (1, 0)
   else if hasB (qX x l 2) (qY y l 2) (l - 1) u v = true then (2, 0) else if hasB (qX x l 3) (qY y l 3) (l - 1) u v = true then (3, 0) else (0, 2))
 else (0, 2)
theorem qList_yes {x y l : Int} (hx : 0 ≤ x) (hx1 : x < 4294967296) (hy : 0 ≤ y) (hy1 : y < 4294967296) (h : isQ x y l = true) :
  qList x y l = [(0, qX x l 0, qY y l 0, l - 1), (1, qX x l 1, qY y l 1, l - 1), (2, qX x l 2, qY y l 2, l - 1), (3, qX x l 3, qY y l 3, l - 1)] := by
 obtain ⟨hr, hl⟩ := isQ_iff.1 h
 obtain ⟨r0, r1, r2, r3, r4, r5⟩ := rightB_iff.1 hr
 unfold qList
 rw [if_pos ⟨by rw [cell_Right.eq x y l hx hx1 hy hy1, hr], hl⟩, shl_sz l r0 r1]
 have e : sz l / 2 = sz (l - 1) := by rw [sz_succ l (by omega)]; omega
 rw [e]
 have hR : List.range 4 = [0, 1, 2, 3] := rfl
 rw [hR]
 simp [qAt, qX, qY]
theorem qList_no {x y l : Int} (hx : 0 ≤ x) (hx1 : x < 4294967296) (hy : 0 ≤ y) (hy1 : y < 4294967296) (h : isQ x y l = false) : qList x y l = [] := by
 unfold qList
 rw [if_neg]
 rintro ⟨h1, h2⟩
 rw [cell_Right.eq x y l hx hx1 hy hy1] at h1
 have : isQ x y l = true := isQ_iff.2 ⟨Option.some.inj h1, h2⟩
 rw [h] at this; simp at this
theorem qXY_bd {x y l : Int} (hx : 0 ≤ x) (hy : 0 ≤ y) (h : isQ x y l = true) (k : Nat) (hk : k ≤ 3) :
  0 ≤ qX x l k ∧ qX x l k < 2147483648 ∧ 0 ≤ qY y l k ∧ qY y l k < 2147483648 := by
 obtain ⟨hr, hl⟩ := isQ_iff.1 h
 obtain ⟨r0, r1, r2, r3, r4, r5⟩ := rightB_iff.1 hr
 have s0 := sz_pos (l - 1)
 have s1 := sz_succ l (by omega)
 have f1 := right_far r0 r1 r2 r4
 have f2 := right_far r0 r1 r3 r5
 have : k = 0 ∨ k = 1 ∨ k = 2 ∨ k = 3 := by omega
 rcases this with rfl | rfl | rfl | rfl <;> simp [qX, qY] <;> omega
theorem qHas_eq {x y l : Int} (hx : 0 ≤ x) (hy : 0 ≤ y) (h : isQ x y l = true) (u v n : Int) (k : Nat) (hk : k ≤ 3) : qHas u v (n, qX x l k, qY y l k, l - 1) = hasB (qX x l k) (qY y l k) (l - 1) u v := by
 obtain ⟨b0, b1, b2, b3⟩ := qXY_bd hx hy h k hk
 unfold qHas
 simp only
 rw [cell_Has.eq _ _ _ _ _ b0 (by omega) b2 (by omega)]
 cases hasB (qX x l k) (qY y l k) (l - 1) u v <;> rfl
theorem cell_Where.eq (x y l u v : Int) (hx : 0 ≤ x) (hx1 : x < 4294967296) (hy : 0 ≤ y) (hy1 : y < 4294967296) : cell_Where.f x y l u v = some (whereR x y l u v) := by
 unfold cell_Where.f whereR
 rw [if_pos ⟨hx, hy⟩]
 congr 1
 cases h : isQ x y l with
 | false => rw [qList_no hx hx1 hy hy1 h]; simp
 | true =>
  rw [qList_yes hx hx1 hy hy1 h, if_pos rfl]
  simp only [List.find?, qHas_eq hx hy h _ _ _ 0 (by omega), qHas_eq hx hy h _ _ _ 1 (by omega), qHas_eq hx hy h _ _ _ 2 (by omega), qHas_eq hx hy h _ _ _ 3 (by omega)]
  cases hasB (qX x l 0) (qY y l 0) (l - 1) u v
  ·cases hasB (qX x l 1) (qY y l 1) (l - 1) u v
   ·cases hasB (qX x l 2) (qY y l 2) (l - 1) u v
    ·cases hasB (qX x l 3) (qY y l 3) (l - 1) u v <;> rfl
    ·rfl
   ·rfl
  ·rfl
end Go.Proofs.YtoimgijhekahhaaGreat.P
namespace Go.Proofs.YtoimgijhekahhaaGreat.P
set_option linter.unusedVariables false
open Go.RowKit Go.Proofs.YtoimgijhekahhaaGreatOwn Go.Proofs.YtoimgijhekahhaaGreatW.PrintWords Go.Proofs.YtoimgijhekahhaaGreatW.PrintLast Go.Proofs.YtoimgijhekahhaaGreatW.PrintMore
theorem q_right {x y l : Int} (hx : 0 ≤ x) (hy : 0 ≤ y) (h : isQ x y l = true) (k : Nat) (hk : k ≤ 3) : rightB (qX x l k) (qY y l k) (l - 1) = true := by
 obtain ⟨b0, b1, b2, b3⟩ := qXY_bd hx hy h k hk
 obtain ⟨hr, hl⟩ := isQ_iff.1 h
 obtain ⟨r0, r1, r2, r3, r4, r5⟩ := rightB_iff.1 hr
 have s1 := sz_succ l (by omega)
 have d : sz (l - 1) ∣ sz l := ⟨2, by rw [s1, Int.mul_comm]⟩
 have d1 : sz (l - 1) ∣ x := Int.dvd_trans d (Int.dvd_of_emod_eq_zero r4)
 have d2 : sz (l - 1) ∣ y := Int.dvd_trans d (Int.dvd_of_emod_eq_zero r5)
 refine rightB_iff.2 ⟨by omega, by omega, b1, b3, ?_, ?_⟩
 ·exact Int.emod_eq_zero_of_dvd (Int.dvd_add d1 ⟨_, rfl⟩)
 ·exact Int.emod_eq_zero_of_dvd (Int.dvd_add d2 ⟨_, rfl⟩)
theorem q_has {x y l : Int} (hx : 0 ≤ x) (hy : 0 ≤ y) (h : isQ x y l = true) (k : Nat) (hk : k ≤ 3) (u v : Int) :
  hasB (qX x l k) (qY y l k) (l - 1) u v = true ↔ qX x l k ≤ u ∧ qY y l k ≤ v ∧ u < qX x l k + sz (l - 1) ∧ v < qY y l k + sz (l - 1) := by
 rw [hasB_iff]; simp only [q_right hx hy h k hk, true_and]
theorem q_parts {x y l : Int} (hx : 0 ≤ x) (hy : 0 ≤ y) (h : isQ x y l = true) (u v : Int) :
  (hasB x y l u v = true ↔ ∃ k, k ≤ 3 ∧ hasB (qX x l k) (qY y l k) (l - 1) u v = true) ∧
  ∀ j k, j ≤ 3 → k ≤ 3 → hasB (qX x l j) (qY y l j) (l - 1) u v = true → hasB (qX x l k) (qY y l k) (l - 1) u v = true → j = k := by
 obtain ⟨hr, hl⟩ := isQ_iff.1 h
 obtain ⟨r0, r1, r2, r3, r4, r5⟩ := rightB_iff.1 hr
 have s0 := sz_pos (l - 1)
 have s1 := sz_succ l (by omega)
 constructor
 ·constructor
  ·intro h1
   obtain ⟨_, g1, g2, g3, g4⟩ := hasB_iff.1 h1
   by_cases a : u < x + sz (l - 1)
   ·by_cases b : v < y + sz (l - 1)
    ·exact ⟨0, by omega, (q_has hx hy h 0 (by omega) u v).2 (by simp [qX, qY]; omega)⟩
    ·exact ⟨2, by omega, (q_has hx hy h 2 (by omega) u v).2 (by simp [qX, qY]; omega)⟩
   ·by_cases b : v < y + sz (l - 1)
    ·exact ⟨1, by omega, (q_has hx hy h 1 (by omega) u v).2 (by simp [qX, qY]; omega)⟩
    ·exact ⟨3, by omega, (q_has hx hy h 3 (by omega) u v).2 (by simp [qX, qY]; omega)⟩
  ·rintro ⟨k, hk, h1⟩
   have g := (q_has hx hy h k hk u v).1 h1
   refine hasB_iff.2 ⟨hr, ?_⟩
   have : k = 0 ∨ k = 1 ∨ k = 2 ∨ k = 3 := by omega
   rcases this with rfl | rfl | rfl | rfl <;> simp [qX, qY] at g <;> omega
 ·intro j k hj hk h1 h2
  have g1 := (q_has hx hy h j hj u v).1 h1
  have g2 := (q_has hx hy h k hk u v).1 h2
  have e1 : j = 0 ∨ j = 1 ∨ j = 2 ∨ j = 3 := by omega
  have e2 : k = 0 ∨ k = 1 ∨ k = 2 ∨ k = 3 := by omega
  rcases e1 with rfl | rfl | rfl | rfl <;> rcases e2 with rfl | rfl | rfl | rfl <;> simp [qX, qY] at g1 g2 <;> first | rfl | omega
theorem where_of {x y l : Int} (hx : 0 ≤ x) (hy : 0 ≤ y) (h : isQ x y l = true) {u v : Int} (k : Nat) (hk : k ≤ 3) (hh : hasB (qX x l k) (qY y l k) (l - 1) u v = true) : whereR x y l u v = ((k : Int), 0) := by
 have p := (q_parts hx hy h u v).2
 have no : ∀ j, j ≤ 3 → j ≠ k → hasB (qX x l j) (qY y l j) (l - 1) u v = false := fun j hj hne => by
  rw [Bool.eq_false_iff]; intro h'; exact hne (p j k hj hk h' hh)
 unfold whereR
 rw [if_pos h]
 have : k = 0 ∨ k = 1 ∨ k = 2 ∨ k = 3 := by omega
 rcases this with rfl | rfl | rfl | rfl
 ·rw [if_pos hh]; rfl
 ·rw [no 0 (by omega) (by omega), if_neg (by simp), if_pos hh]; rfl
 ·rw [no 0 (by omega) (by omega), no 1 (by omega) (by omega), if_neg (by simp), if_neg (by simp), if_pos hh]; rfl
 ·rw [no 0 (by omega) (by omega), no 1 (by omega) (by omega), no 2 (by omega) (by omega), if_neg (by simp), if_neg (by simp), if_neg (by simp), if_pos hh]; rfl
theorem where_ex {x y l : Int} (hx : 0 ≤ x) (hy : 0 ≤ y) (h : isQ x y l = true) {u v : Int} (hh : hasB x y l u v = true) : ∃ k : Nat, k ≤ 3 ∧ hasB (qX x l k) (qY y l k) (l - 1) u v = true ∧ whereR x y l u v = ((k : Int), 0) := by
 obtain ⟨k, hk, h1⟩ := (q_parts hx hy h u v).1.1 hh
 exact ⟨k, hk, h1, where_of hx hy h k hk h1⟩
end Go.Proofs.YtoimgijhekahhaaGreat.P
namespace Go.Proofs.YtoimgijhekahhaaGreat.P
set_option linter.unusedVariables false
open Go.RowKit Go.Proofs.YtoimgijhekahhaaGreatOwn Go.Proofs.YtoimgijhekahhaaGreatW.PrintWords Go.Proofs.YtoimgijhekahhaaGreatW.PrintLast Go.Proofs.YtoimgijhekahhaaGreatW.PrintMore
def oneB (x y u v : Int) (n : Nat) : Bool := decide (x / sz n = u / sz n) && decide (y / sz n = v / sz n)
theorem oneB_iff {x y u v : Int} {n : Nat} : oneB x y u v n = true ↔ x / sz n = u / sz n ∧ y / sz n = v / sz n := by simp [oneB]
theorem sz_nat (n : Nat) : sz (n : Int) = ((2 ^ n : Nat) : Int) := by unfold sz; simp
def lowC (x : Int) (n : Nat) : Int := x / sz n * sz n
theorem lowC_bd {x : Int} (h0 : 0 ≤ x) (n : Nat) : 0 ≤ lowC x n ∧ lowC x n ≤ x ∧ x < lowC x n + sz n ∧ lowC x n % sz n = 0 := by
 have s := sz_pos (n : Int)
 unfold lowC
 have d := Int.mul_ediv_add_emod x (sz n)
 have m0 := Int.emod_nonneg x (show sz n ≠ 0 by omega)
 have m1 := Int.emod_lt_of_pos x (show 0 < sz n by omega)
 rw [Int.mul_comm] at d
 exact ⟨Int.mul_nonneg (Int.ediv_nonneg h0 (by omega)) (by omega), by omega, by omega, Int.mul_emod_left _ _⟩
theorem lowC_eq {x u : Int} (h0 : 0 ≤ x) (n : Nat) : (lowC x n ≤ u ∧ u < lowC x n + sz n) ↔ x / sz n = u / sz n := by
 have s := sz_pos (n : Int)
 unfold lowC
 constructor
 ·rintro ⟨h1, h2⟩
  have a1 : x / sz n ≤ u / sz n := Int.le_ediv_of_mul_le (by omega) h1
  have a2 : u / sz n < x / sz n + 1 := Int.ediv_lt_of_lt_mul (by omega) (by rw [Int.add_mul]; omega)
  omega
 ·intro h
  rw [h]
  have d := Int.mul_ediv_add_emod u (sz n)
  have m0 := Int.emod_nonneg u (show sz n ≠ 0 by omega)
  have m1 := Int.emod_lt_of_pos u (show 0 < sz n by omega)
  rw [Int.mul_comm] at d
  omega
theorem oneB_top {x y u v : Int} (hx : 0 ≤ x) (hx1 : x < 2147483648) (hy : 0 ≤ y) (hy1 : y < 2147483648) (hu : 0 ≤ u) (hu1 : u < 2147483648) (hv : 0 ≤ v) (hv1 : v < 2147483648) : oneB x y u v 31 = true := by
 have e : sz ((31 : Nat) : Int) = 2147483648 := by decide +kernel
 rw [oneB_iff, e]
 omega
def leastL (x y u v : Int) : Nat := Lib.bitLen ((x.toNat ^^^ u.toNat) ||| (y.toNat ^^^ v.toNat))
theorem xor_zero_iff (a b : Nat) : a ^^^ b = 0 ↔ a = b := by
 constructor
 ·intro h
  apply Nat.eq_of_testBit_eq
  intro i
  have e : (a ^^^ b).testBit i = false := by rw [h]; simp
  rw [Nat.testBit_xor] at e
  revert e
  cases a.testBit i <;> cases b.testBit i <;> simp
 ·rintro rfl; exact Nat.xor_self a
theorem xor_lt (a b n : Nat) : (a ^^^ b < 2 ^ n) ↔ a / 2 ^ n = b / 2 ^ n := by
 rw [← Nat.div_eq_zero_iff_lt (Nat.two_pow_pos n), ← Nat.shiftRight_eq_div_pow, Nat.shiftRight_xor_distrib, xor_zero_iff, Nat.shiftRight_eq_div_pow, Nat.shiftRight_eq_div_pow]
theorem or_lt (a b n : Nat) : (a ||| b < 2 ^ n) ↔ (a < 2 ^ n ∧ b < 2 ^ n) := by
 constructor
 ·intro h; exact ⟨Nat.lt_of_le_of_lt Nat.left_le_or h, Nat.lt_of_le_of_lt Nat.right_le_or h⟩
 ·intro h; exact Nat.or_lt_two_pow h.1 h.2
theorem bitLen_iff (x k : Nat) (hx : x < 2 ^ 64) (hk : k ≤ 64) : Lib.bitLen x ≤ k ↔ x < 2 ^ k := by
 constructor
 ·intro h
  by_cases h0 : x = 0
  ·rw [h0]; exact Nat.two_pow_pos k
  ·have := (Lib.bitLenAux_bounds 64 x hx h0).2.2
   exact Nat.lt_of_lt_of_le this (Nat.pow_le_pow_right (by decide) h)
 ·exact Lib.bitLen_le x k hk
theorem leastL_iff {x y u v : Int} (hx : 0 ≤ x) (hx1 : x < 2147483648) (hy : 0 ≤ y) (hy1 : y < 2147483648) (hu : 0 ≤ u) (hu1 : u < 2147483648) (hv : 0 ≤ v) (hv1 : v < 2147483648) (n : Nat) (hn : n ≤ 64) :
  leastL x y u v ≤ n ↔ oneB x y u v n = true := by
 obtain ⟨a, rfl⟩ := Int.eq_ofNat_of_zero_le hx
 obtain ⟨b, rfl⟩ := Int.eq_ofNat_of_zero_le hy
 obtain ⟨c, rfl⟩ := Int.eq_ofNat_of_zero_le hu
 obtain ⟨d, rfl⟩ := Int.eq_ofNat_of_zero_le hv
 unfold leastL
 simp only [Int.toNat_natCast]
 have b1 : a ^^^ c < 2 ^ 64 := Nat.xor_lt_two_pow (by omega) (by omega)
 have b2 : b ^^^ d < 2 ^ 64 := Nat.xor_lt_two_pow (by omega) (by omega)
 rw [bitLen_iff _ n ((or_lt _ _ 64).2 ⟨b1, b2⟩) hn, or_lt, xor_lt, xor_lt, oneB_iff, sz_nat, ← Int.natCast_ediv, ← Int.natCast_ediv, ← Int.natCast_ediv, ← Int.natCast_ediv]
 omega
def leastR (x y u v : Int) : Int × Int × Int × Int := if x < 2147483648 ∧ y < 2147483648 ∧ u < 2147483648 ∧ v < 2147483648 then (lowC x (leastL x y u v), lowC y (leastL x y u v), (leastL x y u v : Int), 0) else (0, 0, 0, 2)
theorem andNot_low (a n : Nat) (ha : a < 2 ^ 32) (hn : n ≤ 32) : a &&& (4294967295 - (2 ^ n - 1)) = a / 2 ^ n * 2 ^ n := by
 have e : 4294967295 - (2 ^ n - 1) = 2 ^ 32 - ((2 ^ n - 1) + 1) := by omega
 have hlt : 2 ^ n - 1 < 2 ^ 32 := by
  have : 2 ^ n ≤ 2 ^ 32 := Nat.pow_le_pow_right (by decide) hn
  have := Nat.two_pow_pos n
  omega
 apply Nat.eq_of_testBit_eq
 intro i
 rw [Nat.testBit_and, e, Nat.testBit_two_pow_sub_succ hlt, Nat.testBit_two_pow_sub_one, Nat.mul_comm, Nat.testBit_two_pow_mul, Nat.testBit_div_two_pow]
 by_cases h1 : i < 32
 ·by_cases h2 : i < n
  ·simp [h1, h2, show ¬ n ≤ i by omega]
  ·simp [h1, h2, show n ≤ i by omega]
 ·have : a.testBit i = false := Nat.testBit_lt_two_pow (Nat.lt_of_lt_of_le ha (Nat.pow_le_pow_right (by decide) (by omega)))
  by_cases h2 : n ≤ i
  ·simp [this, h2]
  ·omega
theorem cell_around.eq {x y : Int} (hx : 0 ≤ x) (hx1 : x < 4294967296) (hy : 0 ≤ y) (hy1 : y < 4294967296) (n : Nat) (hn : n ≤ 31) : cell_around.f x y n = some (lowC x n, lowC y n, (n : Int)) := by
 unfold cell_around.f
 rw [if_pos (by omega)]
 have s1 := sz_pos (n : Int)
 have s2 := sz_le (n : Int) (by omega)
 have e : shl .u32 1 (n : Int) = sz n := by
  unfold shl
  rw [Int.toNat_natCast, Nat.min_eq_left (by simp [IntKind.bits]; omega), IntKind.wrap_u32, Int.one_mul, two_pow, ← sz_nat]
  omega
 rw [e]
 have e2 : (sz n - 1) % 4294967296 = ((2 ^ n - 1 : Nat) : Int) := by
  have := Nat.two_pow_pos n
  rw [sz_nat] at *
  omega
 rw [e2]
 have hlt : 2 ^ n - 1 < 4294967296 := by rw [sz_nat] at s2; omega
 obtain ⟨a, rfl⟩ := Int.eq_ofNat_of_zero_le hx
 obtain ⟨b, rfl⟩ := Int.eq_ofNat_of_zero_le hy
 rw [u32_andNot_nat a _ (by omega) hlt, u32_andNot_nat b _ (by omega) hlt, andNot_low a n (by omega) (by omega), andNot_low b n (by omega) (by omega)]
 unfold lowC
 rw [sz_nat, ← Int.natCast_ediv, ← Int.natCast_ediv, ← Int.natCast_mul, ← Int.natCast_mul]
theorem cell_Least.eq {x y u v : Int} (hx : 0 ≤ x) (hx1 : x < 4294967296) (hy : 0 ≤ y) (hy1 : y < 4294967296) (hu : 0 ≤ u) (hu1 : u < 4294967296) (hv : 0 ≤ v) (hv1 : v < 4294967296) : cell_Least.f x y u v = some (leastR x y u v) := by
 unfold cell_Least.f leastR
 have hm : mx (mx (mx x y) u) v ≥ 2147483648 ↔ ¬ (x < 2147483648 ∧ y < 2147483648 ∧ u < 2147483648 ∧ v < 2147483648) := by
  unfold mx; repeat' split
  all_goals omega
 by_cases hp : x < 2147483648 ∧ y < 2147483648 ∧ u < 2147483648 ∧ v < 2147483648
 ·rw [if_neg (fun h => hm.1 h hp), if_pos hp]
  obtain ⟨p1, p2, p3, p4⟩ := hp
  have hL := leastL_iff hx p1 hy p2 hu p3 hv p4
  have h31 : leastL x y u v ≤ 31 := (hL 31 (by omega)).2 (oneB_top hx p1 hy p2 hu p3 hv p4)
  have e : bits_Len32.f (Go.bits .or .u32 (Go.bits .xor .u32 x u) (Go.bits .xor .u32 y v)) = some (leastL x y u v : Int) := by
   obtain ⟨a, rfl⟩ := Int.eq_ofNat_of_zero_le hx
   obtain ⟨b, rfl⟩ := Int.eq_ofNat_of_zero_le hy
   obtain ⟨c, rfl⟩ := Int.eq_ofNat_of_zero_le hu
   obtain ⟨d, rfl⟩ := Int.eq_ofNat_of_zero_le hv
   have b1 : a ^^^ c < 4294967296 := Nat.xor_lt_two_pow (n := 32) (by omega) (by omega)
   have b2 : b ^^^ d < 4294967296 := Nat.xor_lt_two_pow (n := 32) (by omega) (by omega)
   rw [u32_xor_nat a c (by omega) (by omega), u32_xor_nat b d (by omega) (by omega), u32_or_nat _ _ b1 b2]
   have b3 : (a ^^^ c) ||| (b ^^^ d) < 4294967296 := Nat.or_lt_two_pow (n := 32) b1 b2
   unfold bits_Len32.f leastL
   rw [if_pos ⟨by omega, by omega⟩]
   simp only [Int.toNat_natCast]
  rw [e]
  simp only [Option.bind_some]
  rw [cell_around.eq hx hx1 hy hy1 _ h31, cell_around.eq hu hu1 hv hv1 _ h31]
  simp only [Option.bind_some]
  obtain ⟨o1, o2⟩ := oneB_iff.1 ((hL _ (by omega)).1 (Nat.le_refl _))
  have l1 : lowC u (leastL x y u v) = lowC x (leastL x y u v) := by unfold lowC; rw [o1]
  have l2 : lowC v (leastL x y u v) = lowC y (leastL x y u v) := by unfold lowC; rw [o2]
  rw [l1, l2]
  simp
 ·rw [if_pos (hm.2 hp), if_neg hp]
theorem ref_has {x y u v : Int} (hx : 0 ≤ x) (hy : 0 ≤ y) (n : Nat) (hn : n ≤ 31) (hp : x < 2147483648 ∧ y < 2147483648) : hasB (lowC x n) (lowC y n) n u v = oneB x y u v n := by
 have b1 := lowC_bd hx n
 have b2 := lowC_bd hy n
 have hr : rightB (lowC x n) (lowC y n) n = true := rightB_iff.2 ⟨by omega, by omega, by omega, by omega, b1.2.2.2, b2.2.2.2⟩
 have i1 := lowC_eq (u := u) hx n
 have i2 := lowC_eq (u := v) hy n
 rw [Bool.eq_iff_iff, hasB_iff, oneB_iff, ← i1, ← i2]
 simp only [hr, true_and]
 constructor
 ·rintro ⟨h1, h2, h3, h4⟩; exact ⟨⟨h1, h3⟩, h2, h4⟩
 ·rintro ⟨⟨h1, h3⟩, h2, h4⟩; exact ⟨h1, h2, h3, h4⟩
end Go.Proofs.YtoimgijhekahhaaGreat.P
set_option linter.unusedVariables false
set_option linter.unusedSimpArgs false
namespace Go.Proofs.YtoimgijhekahhaaGreat.P
open Go.RowKit Go.Proofs.YtoimgijhekahhaaGreatW.PrintWords Go.Proofs.YtoimgijhekahhaaGreatW.PrintLast Go.Proofs.YtoimgijhekahhaaGreatW.PrintMore
abbrev Row := S37
def ascS (l : List S37) : Prop := l.Pairwise fun a b => a.f0 < b.f0
theorem wrap64_id {x : Int} (h0 : -9223372036854775808 ≤ x) (h1 : x ≤ 9223372036854775807) : wrap64 x = x := by
 unfold wrap64; omega
def okR (x : Row) : Bool := decide (x.f1 < 2147483648) && (decide (x.f2 < 2147483648) && decide ((x.f3.size : Int) ≤ 16))
theorem qrow (x : Row) : quad_RightRow.f x.f0 x.f1 x.f2 x.f3 = some (okR x) := by
 unfold quad_RightRow.f okR mx
 by_cases h1 : x.f1 < x.f2
 ·rw [if_pos h1]
  by_cases h2 : x.f2 < 2147483648
  ·have h3 : x.f1 < 2147483648 := by omega
   simp [h2, h3]
  ·simp [h2]
 ·rw [if_neg h1]
  by_cases h2 : x.f1 < 2147483648
  ·have h3 : x.f2 < 2147483648 := by omega
   simp [h2, h3]
  ·simp [h2]
theorem rd_at (l : List Row) (j : Nat) (h : j < l.length) : rd_T37 l (j : Int) = l[j] := by unfold rd_T37; simp [List.getD, h]
def good (l : List Row) (j : Nat) : Bool := okR (rd_T37 l (j : Int)) && (decide (j = 0) || decide ((rd_T37 l ((j - 1 : Nat) : Int)).f0 < (rd_T37 l (j : Int)).f0))
def chk (l : List Row) : Nat → Nat → Bool
 | _, 0 => true
 | i, n + 1 => good l i && chk l (i + 1) n
theorem right_l0 (l : List Row) (hl : l.length < 4611686018427387904) : ∀ (n i k : Nat), i + n = l.length → n < k → quad_Right.l0 k l l (l.length : Int) (i : Int) = some (chk l i n && decide ((l.length : Int) ≤ 1000))
 | n, i, 0, _, h => by omega
 | 0, i, k + 1, hi, _ => by
  rw [quad_Right.l0, if_neg (by omega)]
  simp [chk]
 | n + 1, i, k + 1, hi, hk => by
  rw [quad_Right.l0, if_pos (by omega), if_pos (by omega), if_pos (by omega), qrow]
  simp only [Option.bind_some]
  have ih := right_l0 l hl n (i + 1) k (by omega) (by omega)
  have hw : wrap64 ((i : Int) + 1) = ((i + 1 : Nat) : Int) := by rw [wrap64_id (by omega) (by omega)]; omega
  cases hr : okR (rd_T37 l (i : Int)) with
  | false => simp [chk, good, hr]
  | true =>
   rw [if_pos rfl]
   by_cases h0 : i = 0
   ·subst h0
    rw [if_neg (by simp), hw, ih]
    simp [chk, good, show okR (rd_T37 l 0) = true from hr]
   ·have hw2 : wrap64 ((i : Int) - 1) = ((i - 1 : Nat) : Int) := by rw [wrap64_id (by omega) (by omega)]; omega
    rw [if_pos (by omega), hw2, if_pos (by omega), if_pos (by omega)]
    by_cases hlt : (rd_T37 l ((i - 1 : Nat) : Int)).f0 < (rd_T37 l (i : Int)).f0
    ·rw [if_neg (by omega), hw, ih]
     simp [chk, good, hr, hlt]
    ·rw [if_pos (by omega)]
     simp [chk, good, hr, hlt, h0]
def rightL (l : List Row) : Bool := chk l 0 l.length && decide ((l.length : Int) ≤ 1000)
theorem quad_right (l : List Row) (k : Nat) (hl : l.length < 4611686018427387904) (hk : l.length < k) : quad_Right.f k l = some (rightL l) := by
 unfold quad_Right.f rightL
 exact right_l0 l hl l.length 0 k (by omega) hk
theorem chk_good {l : List Row} : ∀ {n i : Nat}, chk l i n = true ↔ ∀ j, i ≤ j → j < i + n → good l j = true
 | 0, i => by simp [chk]; intro j h1 h2; omega
 | n + 1, i => by
  rw [chk, Bool.and_eq_true, chk_good]
  constructor
  ·rintro ⟨h1, h2⟩ j h3 h4
   by_cases h : j = i
   ·rw [h]; exact h1
   ·exact h2 j (by omega) (by omega)
  ·intro h
   exact ⟨h i (Nat.le_refl _) (by omega), fun j h1 h2 => h j (by omega) (by omega)⟩
theorem rightL_iff {l : List Row} : rightL l = true ↔ (∀ x ∈ l, okR x = true) ∧ ascS l ∧ l.length ≤ 1000 := by
 unfold rightL
 rw [Bool.and_eq_true, chk_good, decide_eq_true_eq]
 constructor
 ·rintro ⟨h, hlen⟩
  refine ⟨fun x hx => ?_, ?_, by omega⟩
  ·obtain ⟨j, hj, rfl⟩ := List.getElem_of_mem hx
   have := h j (Nat.zero_le _) (by omega)
   unfold good at this
   rw [Bool.and_eq_true, rd_at l j hj] at this
   exact this.1
  ·unfold ascS
   refine List.pairwise_iff_getElem.2 ?_
   intro i j hi hj hij
   have step : ∀ m, i + m + 1 < l.length → (hm : i + m + 1 < l.length) → l[i].f0 < (l[i + m + 1]).f0 := by
    intro m
    induction m with
    | zero =>
     intro _ hm
     have := h (i + 1) (Nat.zero_le _) (by omega)
     unfold good at this
     rw [Bool.and_eq_true, rd_at l (i + 1) (by omega), Nat.add_sub_cancel, rd_at l i hi] at this
     simpa using this.2
    | succ m ih =>
     intro _ hm
     have h1 := ih (by omega) (by omega)
     have := h (i + (m + 1) + 1) (Nat.zero_le _) (by omega)
     unfold good at this
     rw [Bool.and_eq_true, rd_at l (i + (m + 1) + 1) (by omega), Nat.add_sub_cancel, rd_at l (i + (m + 1)) (by omega)] at this
     have h2 : (l[i + (m + 1)]).f0 < (l[i + (m + 1) + 1]).f0 := by simpa using this.2
     exact Int.lt_trans h1 h2
   have := step (j - i - 1) (by omega) (by omega)
   have e : i + (j - i - 1) + 1 = j := by omega
   simp only [e] at this
   exact this
 ·rintro ⟨h1, h2, h3⟩
  refine ⟨fun j _ hj => ?_, by omega⟩
  have hj' : j < l.length := by omega
  unfold good
  rw [Bool.and_eq_true, rd_at l j hj']
  refine ⟨h1 _ (List.getElem_mem hj'), ?_⟩
  by_cases h0 : j = 0
  ·simp [h0]
  ·rw [rd_at l (j - 1) (by omega)]
   have := List.pairwise_iff_getElem.1 h2 (j - 1) j (by omega) hj' (by omega)
   simp [this]
end Go.Proofs.YtoimgijhekahhaaGreat.P
namespace Go.Proofs.YtoimgijhekahhaaGreat.P
set_option linter.unusedVariables false
set_option linter.unusedSimpArgs false
open Go.RowKit Go.Proofs.YtoimgijhekahhaaGreatOwn Go.Proofs.YtoimgijhekahhaaGreatW.PrintWords Go.Proofs.YtoimgijhekahhaaGreatW.PrintLast Go.Proofs.YtoimgijhekahhaaGreatW.PrintMore
def gapZ (n lo hi : Int) : Int := if n < lo then lo - n else if n > hi then n - hi else 0
theorem gapZ_bd {n lo hi : Int} (h0 : 0 ≤ n) (h1 : n < 2147483648) (h2 : 0 ≤ lo) (h3 : lo ≤ hi) (h4 : hi < 2147483648) : 0 ≤ gapZ n lo hi ∧ gapZ n lo hi < 2147483648 := by
 unfold gapZ; split
 ·omega
 ·split <;> omega
theorem sq_bd {a : Int} (h0 : 0 ≤ a) (h1 : a < 2147483648) : 0 ≤ a * a ∧ a * a < 4611686018427387904 := by
 constructor
 ·exact Int.mul_nonneg h0 h0
 ·have : a * a ≤ 2147483647 * 2147483647 := Int.mul_le_mul (by omega) (by omega) h0 (by omega)
  omega
def farZ (x y l u v : Int) : Int := gapZ u x (x + sz l - 1) * gapZ u x (x + sz l - 1) + gapZ v y (y + sz l - 1) * gapZ v y (y + sz l - 1)
def farR (x y l u v : Int) : Int × Int := if rightB x y l = true ∧ u < 2147483648 ∧ v < 2147483648 then (farZ x y l u v, 0) else (0, 2)
theorem cell_gap.eq {n lo hi : Int} (h0 : 0 ≤ n) (h1 : n < 2147483648) (h2 : 0 ≤ lo) (h3 : lo ≤ hi) (h4 : hi < 2147483648) : cell_gap.f n lo hi = some (gapZ n lo hi) := by
 unfold cell_gap.f gapZ
 split
 ·congr 1; omega
 ·split
  ·congr 1; omega
  ·rfl
theorem cell_Far.eq (k : Nat) (x y l u v : Int) (hx : 0 ≤ x) (hx1 : x < 4294967296) (hy : 0 ≤ y) (hy1 : y < 4294967296) (hu : 0 ≤ u) (hv : 0 ≤ v) : cell_Far.f (k + 1) x y l u v = some (farR x y l u v) := by
 unfold cell_Far.f farR
 rw [cell_Right.eq x y l hx hx1 hy hy1]
 simp only [Option.bind_some]
 cases hr : rightB x y l with
 | false => rw [if_neg (by simp), if_neg (by simp)]; simp only [cell_Far.j0]; rfl
 | true =>
  rw [if_pos rfl]
  simp only [cell_Far.j0]
  have hm : decide (mx u v ≥ 2147483648) = true ↔ ¬ (u < 2147483648 ∧ v < 2147483648) := by
   rw [decide_eq_true_iff]; unfold mx; split <;> omega
  by_cases hp : u < 2147483648 ∧ v < 2147483648
  ·rw [if_neg (fun h => hm.1 h hp), if_pos ⟨by first | trivial | rfl, hp.1, hp.2⟩, cell_all.eq x y l hx hy hr]
   simp only [Option.bind_some]
   obtain ⟨r0, r1, r2, r3, r4, r5⟩ := rightB_iff.1 hr
   have s1 := sz_pos l
   have f1 := right_far r0 r1 r2 r4
   have f2 := right_far r0 r1 r3 r5
   have g1 := gapZ_bd (n := u) (lo := x) (hi := x + sz l - 1) hu hp.1 hx (by omega) (by omega)
   have g2 := gapZ_bd (n := v) (lo := y) (hi := y + sz l - 1) hv hp.2 hy (by omega) (by omega)
   rw [cell_gap.eq hu hp.1 hx (by omega) (by omega), cell_gap.eq hv hp.2 hy (by omega) (by omega)]
   simp only [Option.bind_some]
   have q1 := sq_bd g1.1 g1.2
   have q2 := sq_bd g2.1 g2.2
   rw [wrap_u64 _ q1.1 (by omega), wrap_u64 _ q2.1 (by omega), wrap_u64 _ (by omega) (by omega)]
   rfl
  ·rw [if_pos (hm.2 hp), if_neg (fun h => hp h.2)]
def sqZ (x y u v : Int) : Int := (x - u) * (x - u) + (y - v) * (y - v)
theorem gap_le {n lo hi m : Int} (h1 : lo ≤ m) (h2 : m ≤ hi) : gapZ n lo hi * gapZ n lo hi ≤ (n - m) * (n - m) := by
 unfold gapZ
 split
 ·rw [show n - m = -(m - n) by omega, Int.neg_mul_neg]; exact Int.mul_le_mul (by omega) (by omega) (by omega) (by omega)
 ·split
  ·exact Int.mul_le_mul (by omega) (by omega) (by omega) (by omega)
  ·rw [Int.zero_mul]
   rcases Int.le_total m n with h | h
   ·exact Int.mul_nonneg (by omega) (by omega)
   ·rw [show n - m = -(m - n) by omega, Int.neg_mul_neg]; exact Int.mul_nonneg (by omega) (by omega)
theorem sq_pos (a : Int) : 0 ≤ a * a := by
 rcases Int.le_total 0 a with h | h
 ·exact Int.mul_nonneg h h
 ·rw [show a * a = -a * -a by rw [Int.neg_mul_neg]]; exact Int.mul_nonneg (by omega) (by omega)
theorem sq_lt {a b : Int} (h0 : 0 ≤ a) (h1 : a < 2147483648) (h2 : 0 ≤ b) (h3 : b < 2147483648) : (a - b) * (a - b) < 4611686018427387904 := by
 rcases Int.le_total b a with h | h
 ·exact (sq_bd (by omega) (by omega)).2
 ·rw [show a - b = -(b - a) by omega, Int.neg_mul_neg]; exact (sq_bd (by omega) (by omega)).2
end Go.Proofs.YtoimgijhekahhaaGreat.P
namespace Go.Proofs.YtoimgijhekahhaaGreat.P
set_option linter.unusedVariables false
set_option linter.unusedSimpArgs false
open Go.RowKit Go.Proofs.YtoimgijhekahhaaGreatOwn Go.Proofs.YtoimgijhekahhaaGreatW.PrintWords Go.Proofs.YtoimgijhekahhaaGreatW.PrintLast Go.Proofs.YtoimgijhekahhaaGreatW.PrintMore
def touchB (x y l a b c d : Int) : Bool := rightB x y l && boxB a b c d && decide (x ≤ c) && decide (a ≤ x + sz l - 1) && decide (y ≤ d) && decide (b ≤ y + sz l - 1)
theorem touchB_iff {x y l a b c d : Int} : touchB x y l a b c d = true ↔ rightB x y l = true ∧ boxB a b c d = true ∧ x ≤ c ∧ a ≤ x + sz l - 1 ∧ y ≤ d ∧ b ≤ y + sz l - 1 := by simp [touchB, and_assoc]
theorem four_chain (p q r s : Prop) [Decidable p] [Decidable q] [Decidable r] [Decidable s] : (if p then (if q then (if r then some (decide s) else some false) else some false) else some false) = some (decide p && decide q && decide r && decide s) := by
 by_cases hp : p <;> by_cases hq : q <;> by_cases hr : r <;> simp [hp, hq, hr]
theorem cell_Touches.eq (x y l a b c d : Int) (hx : 0 ≤ x) (hx1 : x < 4294967296) (hy : 0 ≤ y) (hy1 : y < 4294967296) : cell_Touches.f x y l a b c d = some (touchB x y l a b c d) := by
 unfold cell_Touches.f touchB
 rw [cell_Right.eq x y l hx hx1 hy hy1, cell_RightBox.eq]
 simp only [Option.bind_some]
 cases hr : rightB x y l with
 | false => rw [if_neg (by simp)]; rfl
 | true =>
  rw [if_pos rfl]
  cases hb : boxB a b c d with
  | false => rw [if_neg (by simp)]; rfl
  | true =>
   rw [if_pos rfl, cell_all.eq x y l hx hy hr]
   simp only [Option.bind_some]
   rw [four_chain]
   rfl
end Go.Proofs.YtoimgijhekahhaaGreat.P
set_option linter.unusedVariables false
set_option linter.unusedSimpArgs false
namespace Go.Proofs.YtoimgijhekahhaaGreat.P
open Go.RowKit Go.Proofs.YtoimgijhekahhaaGreatOwn Go.Proofs.YtoimgijhekahhaaGreatW.PrintWords Go.Proofs.YtoimgijhekahhaaGreatW.PrintLast Go.Proofs.YtoimgijhekahhaaGreatW.PrintMore
def ptR (r : Row) : Prop := 0 ≤ r.f1 ∧ r.f1 < 2147483648 ∧ 0 ≤ r.f2 ∧ r.f2 < 2147483648
def levF (x y : Int) (n : Nat) (rs : List Row) : Nat := rs.foldl (fun m r => Nat.max m (leastL x y r.f1 r.f2)) n
def levP : List Row → Nat
 | [] => 0
 | r :: rs => levF r.f1 r.f2 0 (r :: rs)
def aroundP : List Row → Int × Int × Int
 | [] => (0, 0, 0)
 | r :: rs => (lowC r.f1 (levP (r :: rs)), lowC r.f2 (levP (r :: rs)), (levP (r :: rs) : Int))
theorem levF_iff {x y : Int} (hx : 0 ≤ x) (hx1 : x < 2147483648) (hy : 0 ≤ y) (hy1 : y < 2147483648) {m : Nat} (hm : m ≤ 64) : ∀ (rs : List Row) (n : Nat), (∀ r ∈ rs, ptR r) → (levF x y n rs ≤ m ↔ n ≤ m ∧ ∀ r ∈ rs, oneB x y r.f1 r.f2 m = true)
 | [], n, _ => by simp [levF]
 | r :: rs, n, h => by
  have hr := h r (List.mem_cons_self)
  show levF x y (Nat.max n (leastL x y r.f1 r.f2)) rs ≤ m ↔ _
  rw [levF_iff hx hx1 hy hy1 hm rs _ (fun r hr => h r (List.mem_cons_of_mem _ hr))]
  have := leastL_iff hx hx1 hy hy1 hr.1 hr.2.1 hr.2.2.1 hr.2.2.2 m hm
  have e : Nat.max n (leastL x y r.f1 r.f2) ≤ m ↔ n ≤ m ∧ oneB x y r.f1 r.f2 m = true := by rw [← this]; exact Nat.max_le
  rw [e]
  simp only [List.mem_cons, forall_eq_or_imp, and_assoc]
theorem levP_iff {l : List Row} {r0 : Row} {rs : List Row} (e : l = r0 :: rs) (h : ∀ r ∈ l, ptR r) {m : Nat} (hm : m ≤ 64) : levP l ≤ m ↔ ∀ r ∈ l, oneB r0.f1 r0.f2 r.f1 r.f2 m = true := by
 subst e
 have h0 := h r0 (List.mem_cons_self)
 show levF r0.f1 r0.f2 0 (r0 :: rs) ≤ m ↔ _
 rw [levF_iff h0.1 h0.2.1 h0.2.2.1 h0.2.2.2 hm _ _ h]
 simp
theorem levP_le {l : List Row} (h : ∀ r ∈ l, ptR r) : levP l ≤ 31 := by
 cases l with
 | nil => exact Nat.zero_le _
 | cons r0 rs =>
  rw [levP_iff rfl h (by omega)]
  have h0 := h r0 (List.mem_cons_self)
  intro r hr
  have h1 := h r hr
  exact oneB_top h0.1 h0.2.1 h0.2.2.1 h0.2.2.2 h1.1 h1.2.1 h1.2.2.1 h1.2.2.2
theorem nat_eq_of_le {a b : Nat} (ha : a ≤ 64) (hb : b ≤ 64) (h : ∀ m, m ≤ 64 → (a ≤ m ↔ b ≤ m)) : a = b := Nat.le_antisymm ((h b hb).2 (Nat.le_refl _)) ((h a ha).1 (Nat.le_refl _))
def qf (q : Int × Int × Int × Int) (r : Row) : Int × Int × Int × Int := (mn q.1 r.f1, mn q.2.1 r.f2, mx q.2.2.1 r.f1, mx q.2.2.2 r.f2)
def edges (q : Int × Int × Int × Int) (rs : List Row) : Int × Int × Int × Int := rs.foldl qf q
theorem mn_le (a b : Int) : mn a b ≤ a ∧ mn a b ≤ b ∧ (mn a b = a ∨ mn a b = b) := by unfold mn; split <;> omega
theorem mx_le (a b : Int) : a ≤ mx a b ∧ b ≤ mx a b ∧ (mx a b = a ∨ mx a b = b) := by unfold mx; split <;> omega
theorem edges_all : ∀ (rs : List Row) (q : Int × Int × Int × Int), ((edges q rs).1 ≤ q.1 ∧ (edges q rs).2.1 ≤ q.2.1 ∧ q.2.2.1 ≤ (edges q rs).2.2.1 ∧ q.2.2.2 ≤ (edges q rs).2.2.2) ∧
  (∀ r ∈ rs, (edges q rs).1 ≤ r.f1 ∧ (edges q rs).2.1 ≤ r.f2 ∧ r.f1 ≤ (edges q rs).2.2.1 ∧ r.f2 ≤ (edges q rs).2.2.2) ∧
  ((edges q rs).1 = q.1 ∨ ∃ r ∈ rs, (edges q rs).1 = r.f1) ∧ ((edges q rs).2.1 = q.2.1 ∨ ∃ r ∈ rs, (edges q rs).2.1 = r.f2) ∧ ((edges q rs).2.2.1 = q.2.2.1 ∨ ∃ r ∈ rs, (edges q rs).2.2.1 = r.f1) ∧ ((edges q rs).2.2.2 = q.2.2.2 ∨ ∃ r ∈ rs, (edges q rs).2.2.2 = r.f2)
 | [], q => ⟨⟨Int.le_refl _, Int.le_refl _, Int.le_refl _, Int.le_refl _⟩, by simp, .inl rfl, .inl rfl, .inl rfl, .inl rfl⟩
 | r :: rs, q => by
  obtain ⟨⟨a1, a2, a3, a4⟩, b, c1, c2, c3, c4⟩ := edges_all rs (qf q r)
  have m1 := mn_le q.1 r.f1
  have m2 := mn_le q.2.1 r.f2
  have m3 := mx_le q.2.2.1 r.f1
  have m4 := mx_le q.2.2.2 r.f2
  have e : edges q (r :: rs) = edges (qf q r) rs := rfl
  rw [e]
  replace a1 : (edges (qf q r) rs).1 ≤ mn q.1 r.f1 := a1
  replace a2 : (edges (qf q r) rs).2.1 ≤ mn q.2.1 r.f2 := a2
  replace a3 : mx q.2.2.1 r.f1 ≤ (edges (qf q r) rs).2.2.1 := a3
  replace a4 : mx q.2.2.2 r.f2 ≤ (edges (qf q r) rs).2.2.2 := a4
  replace c1 : (edges (qf q r) rs).1 = mn q.1 r.f1 ∨ ∃ r' ∈ rs, (edges (qf q r) rs).1 = r'.f1 := c1
  replace c2 : (edges (qf q r) rs).2.1 = mn q.2.1 r.f2 ∨ ∃ r' ∈ rs, (edges (qf q r) rs).2.1 = r'.f2 := c2
  replace c3 : (edges (qf q r) rs).2.2.1 = mx q.2.2.1 r.f1 ∨ ∃ r' ∈ rs, (edges (qf q r) rs).2.2.1 = r'.f1 := c3
  replace c4 : (edges (qf q r) rs).2.2.2 = mx q.2.2.2 r.f2 ∨ ∃ r' ∈ rs, (edges (qf q r) rs).2.2.2 = r'.f2 := c4
  refine ⟨⟨by omega, by omega, by omega, by omega⟩, ?_, ?_, ?_, ?_, ?_⟩
  ·intro r' hr'
   rcases List.mem_cons.1 hr' with rfl | h
   ·exact ⟨by omega, by omega, by omega, by omega⟩
   ·exact b r' h
  ·rcases c1 with h | ⟨r', h1, h2⟩
   ·rcases m1.2.2 with g | g
    ·exact .inl (by omega)
    ·exact .inr ⟨r, List.mem_cons_self, by omega⟩
   ·exact .inr ⟨r', List.mem_cons_of_mem _ h1, h2⟩
  ·rcases c2 with h | ⟨r', h1, h2⟩
   ·rcases m2.2.2 with g | g
    ·exact .inl (by omega)
    ·exact .inr ⟨r, List.mem_cons_self, by omega⟩
   ·exact .inr ⟨r', List.mem_cons_of_mem _ h1, h2⟩
  ·rcases c3 with h | ⟨r', h1, h2⟩
   ·rcases m3.2.2 with g | g
    ·exact .inl (by omega)
    ·exact .inr ⟨r, List.mem_cons_self, by omega⟩
   ·exact .inr ⟨r', List.mem_cons_of_mem _ h1, h2⟩
  ·rcases c4 with h | ⟨r', h1, h2⟩
   ·rcases m4.2.2 with g | g
    ·exact .inl (by omega)
    ·exact .inr ⟨r, List.mem_cons_self, by omega⟩
   ·exact .inr ⟨r', List.mem_cons_of_mem _ h1, h2⟩
theorem quad_around_l0 (l : List Row) (hl : l.length < 4611686018427387904) : ∀ (n i k : Nat) (q : Int × Int × Int × Int), i + n = l.length → n < k →
  quad_around.l0 k q.1 q.2.1 q.2.2.1 q.2.2.2 l (l.length : Int) (i : Int) = (cell_Least.f (edges q (l.drop i)).1 (edges q (l.drop i)).2.1 (edges q (l.drop i)).2.2.1 (edges q (l.drop i)).2.2.2).bind fun b => some (b.1, b.2.1, b.2.2.1)
 | n, i, 0, _, _, h => by omega
 | 0, i, k + 1, q, hi, _ => by
  rw [quad_around.l0, if_neg (by omega), List.drop_eq_nil_of_le (by omega)]
  rfl
 | n + 1, i, k + 1, q, hi, hk => by
  have hil : i < l.length := by omega
  rw [quad_around.l0, if_pos (by omega), if_pos (by omega), if_pos (by omega), wrap64_id (by omega) (by omega), show (i : Int) + 1 = ((i + 1 : Nat) : Int) by omega, rd_at l i hil]
  have := quad_around_l0 l hl n (i + 1) k (qf q l[i]) (by omega) (by omega)
  simp only [qf] at this
  rw [this, List.drop_eq_getElem_cons hil]
  rfl
theorem div_le_div {a b : Int} (h : a ≤ b) (n : Nat) : a / sz n ≤ b / sz n := by
 have := sz_pos n
 exact Int.ediv_le_ediv (by omega) h
theorem around_eq {l : List Row} (hne : l ≠ []) (hp : ∀ r ∈ l, ptR r) (hl : l.length < 4611686018427387904) (k : Nat) (hk : l.length < k) : quad_around.f k l = some (aroundP l) := by
 cases l with
 | nil => exact absurd rfl hne
 | cons r0 rs =>
  have h0 := hp r0 (List.mem_cons_self)
  unfold quad_around.f
  rw [if_pos (by simp), show (0 : Int) = ((0 : Nat) : Int) from rfl, rd_at (r0 :: rs) 0 (by simp)]
  simp only [List.getElem_cons_zero]
  have hq := quad_around_l0 (r0 :: rs) hl (r0 :: rs).length 0 k (r0.f1, r0.f2, r0.f1, r0.f2) (by omega) hk
  simp only [List.drop_zero] at hq
  rw [hq]
  obtain ⟨⟨a1, a2, a3, a4⟩, b, c1, c2, c3, c4⟩ := edges_all (r0 :: rs) (r0.f1, r0.f2, r0.f1, r0.f2)
  generalize edges (r0.f1, r0.f2, r0.f1, r0.f2) (r0 :: rs) = E at a1 a2 a3 a4 b c1 c2 c3 c4 ⊢
  obtain ⟨x, y, u, v⟩ := E
  dsimp only at a1 a2 a3 a4 b c1 c2 c3 c4 ⊢
  have in1 : ∃ r ∈ r0 :: rs, x = r.f1 := by rcases c1 with h | h; exact ⟨r0, List.mem_cons_self, h⟩; exact h
  have in2 : ∃ r ∈ r0 :: rs, y = r.f2 := by rcases c2 with h | h; exact ⟨r0, List.mem_cons_self, h⟩; exact h
  have in3 : ∃ r ∈ r0 :: rs, u = r.f1 := by rcases c3 with h | h; exact ⟨r0, List.mem_cons_self, h⟩; exact h
  have in4 : ∃ r ∈ r0 :: rs, v = r.f2 := by rcases c4 with h | h; exact ⟨r0, List.mem_cons_self, h⟩; exact h
  clear c1 c2 c3 c4 hq
  have bx : 0 ≤ x ∧ x < 2147483648 := by obtain ⟨r, h, e⟩ := in1; have := hp r h; unfold ptR at this; omega
  have byy : 0 ≤ y ∧ y < 2147483648 := by obtain ⟨r, h, e⟩ := in2; have := hp r h; unfold ptR at this; omega
  have bu : 0 ≤ u ∧ u < 2147483648 := by obtain ⟨r, h, e⟩ := in3; have := hp r h; unfold ptR at this; omega
  have bv : 0 ≤ v ∧ v < 2147483648 := by obtain ⟨r, h, e⟩ := in4; have := hp r h; unfold ptR at this; omega
  rw [cell_Least.eq (by omega) (by omega) (by omega) (by omega) (by omega) (by omega) (by omega) (by omega), Option.bind_some]
  unfold leastR
  rw [if_pos ⟨bx.2, byy.2, bu.2, bv.2⟩]
  have hL : ∀ m, m ≤ 64 → (leastL x y u v ≤ m ↔ levP (r0 :: rs) ≤ m) := by
   intro m hm
   rw [leastL_iff bx.1 bx.2 byy.1 byy.2 bu.1 bu.2 bv.1 bv.2 m hm, levP_iff rfl hp hm, oneB_iff]
   constructor
   ·rintro ⟨g1, g2⟩ r hr
    rw [oneB_iff]
    have q0 := b r0 (List.mem_cons_self)
    have q1 := b r hr
    have d1 := div_le_div q0.1 m
    have d2 := div_le_div q0.2.1 m
    have d3 := div_le_div q0.2.2.1 m
    have d4 := div_le_div q0.2.2.2 m
    have d5 := div_le_div q1.1 m
    have d6 := div_le_div q1.2.1 m
    have d7 := div_le_div q1.2.2.1 m
    have d8 := div_le_div q1.2.2.2 m
    omega
   ·intro g
    obtain ⟨s1, h1, e1⟩ := in1
    obtain ⟨s2, h2, e2⟩ := in2
    obtain ⟨s3, h3, e3⟩ := in3
    obtain ⟨s4, h4, e4⟩ := in4
    have g1 := oneB_iff.1 (g s1 h1)
    have g2 := oneB_iff.1 (g s2 h2)
    have g3 := oneB_iff.1 (g s3 h3)
    have g4 := oneB_iff.1 (g s4 h4)
    rw [e1, e2, e3, e4]
    omega
  have t1 : leastL x y u v ≤ 31 := by rw [leastL_iff bx.1 bx.2 byy.1 byy.2 bu.1 bu.2 bv.1 bv.2 31 (by omega)]; exact oneB_top bx.1 bx.2 byy.1 byy.2 bu.1 bu.2 bv.1 bv.2
  have hLL : leastL x y u v = levP (r0 :: rs) := nat_eq_of_le (by omega) (by have := levP_le hp; omega) hL
  rw [hLL]
  have q0 := b r0 (List.mem_cons_self)
  have on := (leastL_iff bx.1 bx.2 byy.1 byy.2 bu.1 bu.2 bv.1 bv.2 (levP (r0 :: rs)) (by have := levP_le hp; omega)).1 (by omega)
  rw [oneB_iff] at on
  have d1 := div_le_div q0.1 (levP (r0 :: rs))
  have d2 := div_le_div q0.2.1 (levP (r0 :: rs))
  have d3 := div_le_div q0.2.2.1 (levP (r0 :: rs))
  have d4 := div_le_div q0.2.2.2 (levP (r0 :: rs))
  have e1 : lowC x (levP (r0 :: rs)) = lowC r0.f1 (levP (r0 :: rs)) := by unfold lowC; rw [show x / sz (levP (r0 :: rs)) = r0.f1 / sz (levP (r0 :: rs)) by omega]
  have e2 : lowC y (levP (r0 :: rs)) = lowC r0.f2 (levP (r0 :: rs)) := by unfold lowC; rw [show y / sz (levP (r0 :: rs)) = r0.f2 / sz (levP (r0 :: rs)) by omega]
  rw [e1, e2]
  rfl
end Go.Proofs.YtoimgijhekahhaaGreat.P
set_option linter.unusedVariables false
set_option linter.unusedSimpArgs false
namespace Go.Proofs.YtoimgijhekahhaaGreat.P
open Go.RowKit Go.Proofs.YtoimgijhekahhaaGreatOwn Go.Proofs.YtoimgijhekahhaaGreatW.PrintWords Go.Proofs.YtoimgijhekahhaaGreatW.PrintLast Go.Proofs.YtoimgijhekahhaaGreatW.PrintMore
def kidsT (t : List Row → Nod) (ps : List (List Row)) : List S44 := (ps.filter fun p => !p.isEmpty).map fun p => mkNode (t p)
def partsP (l : List Row) : List (List Row) := [partP (aroundP l) l 0, partP (aroundP l) l 1, partP (aroundP l) l 2, partP (aroundP l) l 3]
def treeP : Nat → List Row → Nod
 | 0, _ => (0, 0, 0, [], [])
 | n + 1, l => if l = [] then (0, 0, 0, [], []) else
   if l.length ≤ 4 ∨ levP l = 0 then ((aroundP l).1, (aroundP l).2.1, (aroundP l).2.2, l, [])
   else ((aroundP l).1, (aroundP l).2.1, (aroundP l).2.2, [], kidsT (treeP n) (partsP l))
theorem kidsP_eq {t' : List Row → Option Nod} {t : List Row → Nod} : ∀ {ps : List (List Row)}, (∀ p ∈ ps, p ≠ [] → t' p = some (t p)) → kidsP t' ps = some (kidsT t ps)
 | [], _ => rfl
 | p :: ps, h => by
  have ih := kidsP_eq (t' := t') (t := t) (ps := ps) (fun q hq => h q (List.mem_cons_of_mem _ hq))
  unfold kidsP
  by_cases e : p = []
  ·rw [if_pos e, ih]; subst e; rfl
  ·rw [if_neg e, h p (List.mem_cons_self) e, ih]
   cases p with
   | nil => exact absurd rfl e
   | cons a p => rfl
theorem around_lev {l : List Row} : (aroundP l).2.2 = (levP l : Int) := by cases l <;> rfl
theorem around_right {l : List Row} (hp : ∀ r ∈ l, ptR r) : rightB (aroundP l).1 (aroundP l).2.1 (aroundP l).2.2 = true ∧ 0 ≤ (aroundP l).1 ∧ 0 ≤ (aroundP l).2.1 := by
 cases l with
 | nil => decide
 | cons r0 rs =>
  have h0 := hp r0 (List.mem_cons_self)
  have hv := levP_le hp
  have b1 := lowC_bd h0.1 (levP (r0 :: rs))
  have b2 := lowC_bd h0.2.2.1 (levP (r0 :: rs))
  have g1 := h0.2.1
  have g2 := h0.2.2.2
  refine ⟨rightB_iff.2 ⟨Int.natCast_nonneg _, ?_, ?_, ?_, ?_, ?_⟩, b1.1, b2.1⟩
  ·show (levP (r0 :: rs) : Int) ≤ 31; omega
  ·show lowC r0.f1 (levP (r0 :: rs)) < _; omega
  ·show lowC r0.f2 (levP (r0 :: rs)) < _; omega
  ·exact b1.2.2.2
  ·exact b2.2.2.2
theorem around_has {l : List Row} (hp : ∀ r ∈ l, ptR r) {r : Row} (hr : r ∈ l) : hasB (aroundP l).1 (aroundP l).2.1 (aroundP l).2.2 r.f1 r.f2 = true := by
 cases l with
 | nil => simp at hr
 | cons r0 rs =>
  have h0 := hp r0 (List.mem_cons_self)
  have hv := levP_le hp
  show hasB (lowC r0.f1 (levP (r0 :: rs))) (lowC r0.f2 (levP (r0 :: rs))) (levP (r0 :: rs) : Int) r.f1 r.f2 = true
  rw [ref_has h0.1 h0.2.2.1 _ hv ⟨h0.2.1, h0.2.2.2⟩]
  exact (levP_iff rfl hp (by omega)).1 (Nat.le_refl _) r hr
theorem around_isQ {l : List Row} (hp : ∀ r ∈ l, ptR r) (hv : levP l ≠ 0) : isQ (aroundP l).1 (aroundP l).2.1 (aroundP l).2.2 = true := isQ_iff.2 ⟨(around_right hp).1, by rw [around_lev]; omega⟩
theorem bd_of_right {x y l : Int} (h : rightB x y l = true) : x < 4294967296 ∧ y < 4294967296 := by have := rightB_iff.1 h; omega
theorem whereP_eq {l : List Row} (hp : ∀ r ∈ l, ptR r) (r : Row) : whereP (aroundP l) r = (whereR (aroundP l).1 (aroundP l).2.1 (aroundP l).2.2 r.f1 r.f2).1 := by
 obtain ⟨h1, h2, h3⟩ := around_right hp
 have := bd_of_right h1
 unfold whereP
 rw [cell_Where.eq _ _ _ _ _ h2 this.1 h3 this.2]
theorem where_k {l : List Row} (hp : ∀ r ∈ l, ptR r) (hv : levP l ≠ 0) {r : Row} (hr : r ∈ l) : ∃ k : Nat, k ≤ 3 ∧ hasB (qX (aroundP l).1 (aroundP l).2.2 k) (qY (aroundP l).2.1 (aroundP l).2.2 k) ((aroundP l).2.2 - 1) r.f1 r.f2 = true ∧ whereP (aroundP l) r = (k : Int) := by
 obtain ⟨_, h2, h3⟩ := around_right hp
 obtain ⟨k, hk, hh, hw⟩ := where_ex h2 h3 (around_isQ hp hv) (around_has hp hr)
 exact ⟨k, hk, hh, by rw [whereP_eq hp, hw]⟩
theorem where_iff {l : List Row} (hp : ∀ r ∈ l, ptR r) (hv : levP l ≠ 0) {r : Row} (hr : r ∈ l) {i : Nat} (hi : i ≤ 3) : hasB (qX (aroundP l).1 (aroundP l).2.2 i) (qY (aroundP l).2.1 (aroundP l).2.2 i) ((aroundP l).2.2 - 1) r.f1 r.f2 = (whereP (aroundP l) r == (i : Int)) := by
 obtain ⟨_, h2, h3⟩ := around_right hp
 rw [Bool.eq_iff_iff, beq_iff_eq]
 constructor
 ·intro h
  rw [whereP_eq hp, where_of h2 h3 (around_isQ hp hv) i hi h]
 ·intro h
  obtain ⟨k, hk, hh, hw⟩ := where_k hp hv hr
  have : k = i := by omega
  subst this
  exact hh
theorem div_of9 (n : Nat) : ∀ q z : Int, q % sz (n : Int) = 0 → q ≤ z → z < q + sz (n : Int) → z / sz (n : Int) = q / sz (n : Int) := by
 intro q z h1 h2 h3
 have hs := sz_pos n
 have hq : q = q / sz n * sz n := by have := Int.mul_ediv_add_emod q (sz n); rw [h1, Int.mul_comm] at this; omega
 refine Int.le_antisymm ?_ (div_le_div h2 n)
 have h4 : z < (q / sz n + 1) * sz n := by rw [Int.add_mul, Int.one_mul]; omega
 have := (Int.ediv_lt_iff_lt_mul (by omega : 0 < sz n)).2 h4
 omega
theorem part_sub {c : Int × Int × Int} {l : List Row} {i : Nat} {r : Row} (h : r ∈ partP c l i) : r ∈ l := (List.mem_filter.1 h).1
theorem part_len (c : Int × Int × Int) (l : List Row) (i : Nat) : (partP c l i).length ≤ l.length := List.length_filter_le _ _
theorem part_lev {l : List Row} (hp : ∀ r ∈ l, ptR r) (hv : levP l ≠ 0) {i : Nat} (hi : i ≤ 3) : levP (partP (aroundP l) l i) < levP l := by
 have h31 := levP_le hp
 have hpp : ∀ r ∈ partP (aroundP l) l i, ptR r := fun r h => hp r (part_sub h)
 cases hq : partP (aroundP l) l i with
 | nil => show 0 < _; omega
 | cons r0 rs =>
  have hle : levP (r0 :: rs) ≤ levP l - 1 := by
   rw [levP_iff rfl (by rw [← hq]; exact hpp) (by omega)]
   intro r hr
   rw [← hq] at hr
   have hr0 : r0 ∈ partP (aroundP l) l i := by rw [hq]; exact List.mem_cons_self
   have inq : ∀ s, s ∈ partP (aroundP l) l i → s.f1 / sz ((levP l - 1 : Nat) : Int) = qX (aroundP l).1 (aroundP l).2.2 i / sz ((levP l - 1 : Nat) : Int) ∧ s.f2 / sz ((levP l - 1 : Nat) : Int) = qY (aroundP l).2.1 (aroundP l).2.2 i / sz ((levP l - 1 : Nat) : Int) := by
    intro s hs
    have h1 := (List.mem_filter.1 hs).2
    rw [← where_iff hp hv (part_sub hs) hi] at h1
    obtain ⟨hrr, g1, g2, g3, g4⟩ := hasB_iff.1 h1
    obtain ⟨_, _, _, _, m1, m2⟩ := rightB_iff.1 hrr
    have e : (aroundP l).2.2 - 1 = ((levP l - 1 : Nat) : Int) := by rw [around_lev]; omega
    rw [e] at g3 g4 m1 m2
    exact ⟨div_of9 _ _ _ m1 g1 g3, div_of9 _ _ _ m2 g2 g4⟩
   have a := inq r hr
   have b := inq r0 hr0
   rw [oneB_iff]
   omega
  omega
theorem mem_parts {l p : List Row} (h : p ∈ partsP l) : ∃ i : Nat, i ≤ 3 ∧ p = partP (aroundP l) l i := by
 unfold partsP at h
 simp only [List.mem_cons, List.not_mem_nil, or_false] at h
 rcases h with h | h | h | h
 ·exact ⟨0, by omega, h⟩
 ·exact ⟨1, by omega, h⟩
 ·exact ⟨2, by omega, h⟩
 ·exact ⟨3, by omega, h⟩
theorem tree_eq : ∀ (n : Nat) (l : List Row) (k : Nat), (∀ r ∈ l, ptR r) → levP l < n → l.length ≤ 1000 → l.length + n + 1 ≤ k → quad_tree.f k l = some (treeP n l)
 | 0, l, k, _, h, _, _ => by omega
 | n + 1, l, 0, _, _, _, h => by omega
 | n + 1, l, k + 1, hp, hv, hl, hk => by
  rw [quad_tree.f, treeP]
  by_cases h0 : l = []
  ·rw [if_pos h0, if_pos h0]
  ·rw [if_neg h0, if_neg h0, around_eq h0 hp (by omega) k (by omega), Option.bind_some, if_pos hl]
   have hlev : (l.length ≤ 4 ∨ (aroundP l).2.2 = 0) ↔ (l.length ≤ 4 ∨ levP l = 0) := by rw [around_lev]; omega
   by_cases h1 : l.length ≤ 4 ∨ levP l = 0
   ·rw [if_pos (hlev.2 h1), if_pos h1]
   ·rw [if_neg (fun e => h1 (hlev.1 e)), if_neg h1]
    have hv0 : levP l ≠ 0 := fun e => h1 (.inr e)
    rw [if_pos (fun r hr => by obtain ⟨k, h2, _, h3⟩ := where_k hp hv0 hr; omega)]
    rw [show [partP (aroundP l) l 0, partP (aroundP l) l 1, partP (aroundP l) l 2, partP (aroundP l) l 3] = partsP l from rfl]
    rw [kidsP_eq (t := treeP n) (fun p hpm hne => by
     obtain ⟨i, hi, rfl⟩ := mem_parts hpm
     have := part_lev hp hv0 hi
     have hpl := part_len (aroundP l) l i
     exact tree_eq n _ k (fun r hr => hp r (part_sub hr)) (by omega) (by omega) (by omega))]
    rfl
end Go.Proofs.YtoimgijhekahhaaGreat.P
set_option linter.unusedVariables false
set_option linter.unusedSimpArgs false
namespace Go.Proofs.YtoimgijhekahhaaGreat.P
open Go.RowKit Go.Proofs.YtoimgijhekahhaaGreatOwn Go.Proofs.YtoimgijhekahhaaGreatW.PrintWords Go.Proofs.YtoimgijhekahhaaGreatW.PrintLast Go.Proofs.YtoimgijhekahhaaGreatW.PrintMore
theorem four_perm (f : Row → Int) : ∀ (l : List Row), (∀ r ∈ l, ∃ k : Nat, k ≤ 3 ∧ f r = (k : Int)) →
  ((l.filter fun r => f r == ((0 : Nat) : Int)) ++ ((l.filter fun r => f r == ((1 : Nat) : Int)) ++ ((l.filter fun r => f r == ((2 : Nat) : Int)) ++ (l.filter fun r => f r == ((3 : Nat) : Int))))).Perm l
 | [], _ => by simp
 | r :: l, h => by
  have ih := four_perm f l (fun s hs => h s (List.mem_cons_of_mem _ hs))
  obtain ⟨k, hk, e⟩ := h r (List.mem_cons_self)
  simp only [List.filter_cons, e]
  generalize (l.filter fun r => f r == ((0 : Nat) : Int)) = A at ih ⊢
  generalize (l.filter fun r => f r == ((1 : Nat) : Int)) = B at ih ⊢
  generalize (l.filter fun r => f r == ((2 : Nat) : Int)) = C at ih ⊢
  generalize (l.filter fun r => f r == ((3 : Nat) : Int)) = D at ih ⊢
  have : k = 0 ∨ k = 1 ∨ k = 2 ∨ k = 3 := by omega
  rcases this with rfl | rfl | rfl | rfl
  ·show (r :: A ++ (B ++ (C ++ D))).Perm (r :: l)
   exact ih.cons r
  ·show (A ++ (r :: B ++ (C ++ D))).Perm (r :: l)
   exact List.perm_middle.trans (ih.cons r)
  ·show (A ++ (B ++ (r :: C ++ D))).Perm (r :: l)
   exact ((List.perm_middle.append_left A).trans List.perm_middle).trans (ih.cons r)
  ·show (A ++ (B ++ (C ++ (r :: D)))).Perm (r :: l)
   exact ((((List.perm_middle.append_left B).trans List.perm_middle).append_left A).trans List.perm_middle).trans (ih.cons r)
theorem parts_perm {l : List Row} (hp : ∀ r ∈ l, ptR r) (hv : levP l ≠ 0) : (partsP l).flatten.Perm l := by
 have := four_perm (whereP (aroundP l)) l (fun r hr => by obtain ⟨k, h1, _, h2⟩ := where_k hp hv hr; exact ⟨k, h1, h2⟩)
 simpa [partsP, partP] using this
def realP (l : List Row) : List (List Row) := (partsP l).filter fun p => !p.isEmpty
theorem flatten_real : ∀ (ps : List (List Row)), (ps.filter fun p => !p.isEmpty).flatten = ps.flatten
 | [] => rfl
 | p :: ps => by
  have ih := flatten_real ps
  cases p with
  | nil => simpa using ih
  | cons a p => simp [ih]
theorem real_perm {l : List Row} (hp : ∀ r ∈ l, ptR r) (hv : levP l ≠ 0) : (realP l).flatten.Perm l := by unfold realP; rw [flatten_real]; exact parts_perm hp hv
theorem real_mem {l p : List Row} (h : p ∈ realP l) : p ≠ [] ∧ ∃ i : Nat, i ≤ 3 ∧ p = partP (aroundP l) l i := by
 obtain ⟨h1, h2⟩ := List.mem_filter.1 h
 exact ⟨by cases p with | nil => simp at h2 | cons a b => simp, mem_parts h1⟩
theorem real_sub {l p : List Row} (h : p ∈ realP l) {r : Row} (hr : r ∈ p) : r ∈ l := by obtain ⟨_, i, _, rfl⟩ := real_mem h; exact part_sub hr
theorem real_lev {l p : List Row} (hp : ∀ r ∈ l, ptR r) (hv : levP l ≠ 0) (h : p ∈ realP l) : levP p < levP l := by obtain ⟨_, i, hi, rfl⟩ := real_mem h; exact part_lev hp hv hi
theorem kids_real (l : List Row) (t : List Row → Nod) : kidsT t (partsP l) = (realP l).map fun p => mkNode (t p) := rfl
end Go.Proofs.YtoimgijhekahhaaGreat.P
set_option linter.unusedVariables false
set_option linter.unusedSimpArgs false
namespace Go.Proofs.YtoimgijhekahhaaGreat.P
open Go.RowKit Go.Proofs.YtoimgijhekahhaaGreatOwn Go.Proofs.YtoimgijhekahhaaGreatW.PrintWords Go.Proofs.YtoimgijhekahhaaGreatW.PrintLast Go.Proofs.YtoimgijhekahhaaGreatW.PrintMore
theorem wf_u32 {x : Int} (h : (Lit.int .u32 x).wf = true) : 0 ≤ x ∧ x < 4294967296 := by
 have := bounds_u32 h; omega
theorem pt_of {s : Row} (h : wfRow s) (hk : okR s = true) : ptR s := by
 have h1 := wf_u32 h.w1
 have h2 := wf_u32 h.w2
 unfold okR at hk
 simp only [Bool.and_eq_true, decide_eq_true_eq] at hk
 exact ⟨h1.1, hk.1, h2.1, hk.2.1⟩
structure Good (l : List Row) : Prop where
 pt : ∀ r ∈ l, ptR r
 asc : ascS l
 len : l.length ≤ 60
 lev : levP l < 32
theorem good_of {l : List Row} (wf : ∀ s ∈ l, wfRow s) (hlen : l.length ≤ 60) (h : rightL l = true) : Good l := by
 obtain ⟨h1, h2, h3⟩ := rightL_iff.1 h
 have hp : ∀ r ∈ l, ptR r := fun r hr => pt_of (wf r hr) (h1 r hr)
 exact ⟨hp, h2, hlen, by have := levP_le hp; omega⟩
abbrev T9 (l : List Row) : Nod := treeP 32 l
theorem build_good {l : List Row} (g : Good l) (hr : rightL l = true) {k : Nat} (hk : 128 ≤ k) : quad_Build.f k l = some ((T9 l).1, (T9 l).2.1, (T9 l).2.2.1, (T9 l).2.2.2.1, (T9 l).2.2.2.2, 0) := by
 have := g.len
 unfold quad_Build.f
 rw [quad_right l k (by omega) (by omega), hr, Option.bind_some, if_pos rfl, tree_eq 32 l k g.pt g.lev (by omega) (by omega)]
 rfl
theorem build_bad {l : List Row} (hr : rightL l = false) (hlen : l.length ≤ 60) {k : Nat} (hk : 128 ≤ k) : quad_Build.f k l = some (0, 0, 0, [], [], 80) := by
 unfold quad_Build.f
 rw [quad_right l k (by omega) (by omega), hr, Option.bind_some, if_neg (by simp)]
theorem few_len (l : List Row) : (l.take 60).length ≤ 60 := by rw [List.length_take]; omega
theorem few_wf {l : List Row} (wf : ∀ s ∈ l, wfRow s) : ∀ s ∈ l.take 60, wfRow s := fun s h => wf s (List.mem_of_mem_take h)
end Go.Proofs.YtoimgijhekahhaaGreat.P
set_option linter.unusedVariables false
set_option linter.unusedSimpArgs false
namespace Go.Proofs.YtoimgijhekahhaaGreat.P
open Go.RowKit Go.Proofs.YtoimgijhekahhaaGreatOwn Go.Proofs.YtoimgijhekahhaaGreatW.PrintWords Go.Proofs.YtoimgijhekahhaaGreatW.PrintLast Go.Proofs.YtoimgijhekahhaaGreatW.PrintMore
theorem rows_kids {ov : S41 → Bool} {is : Row → Bool} {t : List Row → Nod} : ∀ {ps : List (List Row)}, (∀ p ∈ ps, ((rowsN ov (mkNode (t p))).filter is).Perm (p.filter is)) → ((rowsL ov (ps.map fun p => mkNode (t p))).filter is).Perm (ps.flatten.filter is)
 | [], _ => by simp [rowsL]
 | p :: ps, h => by
  rw [List.map_cons, rowsL, List.filter_append, List.flatten_cons, List.filter_append]
  exact (h p (List.mem_cons_self)).append (rows_kids (fun q hq => h q (List.mem_cons_of_mem _ hq)))
theorem rows_tree {ov : S41 → Bool} {is : Row → Bool} (H : ∀ (x y v : Int) (r : Row), 0 ≤ x → 0 ≤ y → rightB x y v = true → ptR r → hasB x y v r.f1 r.f2 = true → ov ⟨x, y, v⟩ = true → is r = false) :
  ∀ (n : Nat) (l : List Row), (∀ r ∈ l, ptR r) → levP l < n → ((rowsN ov (mkNode (treeP n l))).filter is).Perm (l.filter is)
 | 0, l, _, h => by omega
 | n + 1, l, hp, hv => by
  rw [treeP]
  by_cases h0 : l = []
  ·rw [if_pos h0, h0, rowsN_eq]
   simp [mkNode, rowsL]
  ·rw [if_neg h0]
   obtain ⟨hr, hx, hy⟩ := around_right hp
   by_cases hov : ov ⟨(aroundP l).1, (aroundP l).2.1, (aroundP l).2.2⟩ = true
   ·have hnil : l.filter is = [] := List.filter_eq_nil_iff.2 (fun r hm => by rw [H _ _ _ r hx hy hr (hp r hm) (around_has hp hm) hov]; simp)
    rw [hnil]
    have : ∀ rs ks, rowsN ov (mkNode ((aroundP l).1, (aroundP l).2.1, (aroundP l).2.2, rs, ks)) = [] := fun rs ks => by rw [rowsN_eq]; exact if_pos hov
    split <;> rw [this] <;> simp
   ·have hrw : ∀ rs ks, rowsN ov (mkNode ((aroundP l).1, (aroundP l).2.1, (aroundP l).2.2, rs, ks)) = rs ++ rowsL ov ks := fun rs ks => by rw [rowsN_eq]; exact if_neg hov
    by_cases h1 : l.length ≤ 4 ∨ levP l = 0
    ·rw [if_pos h1, hrw]
     simp [rowsL]
    ·rw [if_neg h1, hrw, List.nil_append, kids_real]
     have hv0 : levP l ≠ 0 := fun e => h1 (.inr e)
     refine (rows_kids (fun p hm => rows_tree H n p (fun r hr => hp r (real_sub hm hr)) (by have := real_lev hp hv0 hm; omega))).trans ?_
     exact (real_perm hp hv0).filter is
mutual
theorem rowsN_le (ov : S41 → Bool) : ∀ (n : S44), (rowsN ov n).length ≤ (rowsN (fun _ => false) n).length
 | ⟨c, rs, ks⟩ => by
  have := rowsL_le ov ks
  rw [rowsN, rowsN]
  split
  ·exact Nat.zero_le _
  ·simp; omega
theorem rowsL_le (ov : S41 → Bool) : ∀ (l : List S44), (rowsL ov l).length ≤ (rowsL (fun _ => false) l).length
 | [] => Nat.le_refl _
 | n :: l => by
  have h1 := rowsN_le ov n
  have h2 := rowsL_le ov l
  rw [rowsL, rowsL]
  simp; omega
end
theorem rows_all_tree {n : Nat} {l : List Row} (hp : ∀ r ∈ l, ptR r) (hv : levP l < n) : (rowsN (fun _ => false) (mkNode (treeP n l))).Perm l := by
 have := rows_tree (ov := fun _ => false) (is := fun _ => true) (fun _ _ _ _ _ _ _ _ _ h => by simp at h) n l hp hv
 have e : ∀ (m : List Row), m.filter (fun _ => true) = m := fun m => List.filter_eq_self.2 (fun _ _ => rfl)
 rwa [e, e] at this
theorem nodup_ids {l : List Row} (h : ascS l) : (l.map (·.f0)).Nodup := by
 unfold ascS at h
 rw [List.Nodup, List.pairwise_map]
 exact h.imp (fun h => by omega)
theorem sort_tree {ov : S41 → Bool} {is : Row → Bool} (H : ∀ (x y v : Int) (r : Row), 0 ≤ x → 0 ≤ y → rightB x y v = true → ptR r → hasB x y v r.f1 r.f2 = true → ov ⟨x, y, v⟩ = true → is r = false)
  {n : Nat} {l : List Row} (hp : ∀ r ∈ l, ptR r) (hv : levP l < n) (ha : ascS l) (hl : l.length ≤ 1000) :
  okT ov is (mkNode (treeP n l)) ∧ sortP ((rowsL ov [mkNode (treeP n l)]).filter is) = l.filter is := by
 have e : rowsL ov [mkNode (treeP n l)] = rowsN ov (mkNode (treeP n l)) := by simp [rowsL]
 have hP := rows_tree H n l hp hv
 have hnd : (((rowsN ov (mkNode (treeP n l))).filter is).map (·.f0)).Nodup := by
  refine ((hP.map (·.f0)).nodup_iff).2 ?_
  exact (nodup_ids ha).sublist ((List.filter_sublist).map _)
 unfold okT
 rw [e]
 refine ⟨⟨?_, hnd⟩, ?_⟩
 ·have h1 := rowsN_le ov (mkNode (treeP n l))
  have h2 := (rows_all_tree hp hv).length_eq
  omega
 ·refine (sortP_unique hnd hP.symm ?_).symm
  exact (List.Pairwise.sublist List.filter_sublist ha).imp (fun h => by omega)
end Go.Proofs.YtoimgijhekahhaaGreat.P
set_option linter.unusedVariables false
set_option linter.unusedSimpArgs false
namespace Go.Proofs.YtoimgijhekahhaaGreat.P
open Go.RowKit Go.Proofs.YtoimgijhekahhaaGreatOwn Go.Proofs.YtoimgijhekahhaaGreatW.PrintWords Go.Proofs.YtoimgijhekahhaaGreatW.PrintLast Go.Proofs.YtoimgijhekahhaaGreatW.PrintMore
def nearB (a1 a2 a3 : Int) (r : Row) : Bool := decide (sqZ a1 a2 r.f1 r.f2 ≤ a3)
def roundP (l : List Row) (a1 a2 a3 : Int) : List Row × Int := if a1 ≥ 2147483648 ∨ a2 ≥ 2147483648 then ([], 2) else (l.filter (nearB a1 a2 a3), 0)
theorem right_pt {r : Row} (h : ptR r) : rightB r.f1 r.f2 0 = true := by
 obtain ⟨h1, h2, h3, h4⟩ := h
 exact rightB_iff.2 ⟨by omega, by omega, h2, h4, by simp [sz, Int.emod_one], by simp [sz, Int.emod_one]⟩
theorem gapZ_self (u x : Int) : gapZ u x (x + sz 0 - 1) * gapZ u x (x + sz 0 - 1) = (u - x) * (u - x) := by
 have e : x + sz 0 - 1 = x := by simp [sz]
 rw [e]
 unfold gapZ
 by_cases h1 : u < x
 ·rw [if_pos h1, show u - x = -(x - u) by omega, Int.neg_mul_neg]
 ·rw [if_neg h1]
  by_cases h2 : u > x
  ·rw [if_pos h2]
  ·rw [if_neg h2, show u - x = 0 by omega]
theorem far_pt (r : Row) (u v : Int) : farZ r.f1 r.f2 0 u v = sqZ u v r.f1 r.f2 := by unfold farZ sqZ; rw [gapZ_self, gapZ_self]
theorem isR_eq {a1 a2 a3 : Int} (h1 : 0 ≤ a1) (h2 : 0 ≤ a2) (g1 : a1 < 2147483648) (g2 : a2 < 2147483648) {r : Row} (h : ptR r) : isR a1 a2 a3 r = nearB a1 a2 a3 r := by
 have hb := h
 obtain ⟨b1, b2, b3, b4⟩ := hb
 unfold isR quad_far.f nearB
 rw [cell_Far.eq 0 r.f1 r.f2 0 a1 a2 b1 (by omega) b3 (by omega) h1 h2]
 unfold farR
 rw [if_pos ⟨right_pt h, g1, g2⟩]
 simp only [Option.bind_some, far_pt]
theorem ovR_far {a1 a2 a3 : Int} (h1 : 0 ≤ a1) (h2 : 0 ≤ a2) (g1 : a1 < 2147483648) (g2 : a2 < 2147483648) (x y v : Int) (r : Row) (hx : 0 ≤ x) (hy : 0 ≤ y) (hr : rightB x y v = true) (hp : ptR r) (hh : hasB x y v r.f1 r.f2 = true) (ho : ovR a1 a2 a3 ⟨x, y, v⟩ = true) : isR a1 a2 a3 r = false := by
 rw [isR_eq h1 h2 g1 g2 hp]
 have hbd := bd_of_right hr
 unfold ovR at ho
 rw [cell_Far.eq 0 x y v a1 a2 hx hbd.1 hy hbd.2 h1 h2] at ho
 unfold farR at ho
 rw [if_pos ⟨hr, g1, g2⟩] at ho
 simp only [decide_eq_true_eq] at ho
 obtain ⟨_, q1, q2, q3, q4⟩ := hasB_iff.1 hh
 have k1 := gap_le (n := a1) (lo := x) (hi := x + sz v - 1) (m := r.f1) q1 (by omega)
 have k2 := gap_le (n := a2) (lo := y) (hi := y + sz v - 1) (m := r.f2) q2 (by omega)
 unfold nearB
 refine decide_eq_false ?_
 unfold farZ at ho
 unfold sqZ
 omega
theorem round_eq {l : List Row} (g : Good l) (k : Nat) {a1 a2 a3 : Int} (h1 : 0 ≤ a1) (h2 : 0 ≤ a2) : quad_Round.f k (T9 l).1 (T9 l).2.1 (T9 l).2.2.1 (T9 l).2.2.2.1 (T9 l).2.2.2.2 a1 a2 a3 = some (roundP l a1 a2 a3) := by
 have hlen := g.len
 unfold quad_Round.f roundP
 have hm : mx a1 a2 ≥ 2147483648 ↔ (a1 ≥ 2147483648 ∨ a2 ≥ 2147483648) := by unfold mx; split <;> omega
 by_cases hb : a1 ≥ 2147483648 ∨ a2 ≥ 2147483648
 ·rw [if_pos (hm.2 hb), if_pos hb]
 ·rw [if_neg (fun e => hb (hm.1 e)), if_neg hb]
  have g1 : a1 < 2147483648 := by omega
  have g2 : a2 < 2147483648 := by omega
  obtain ⟨q1, q2⟩ := sort_tree (ov := ovR a1 a2 a3) (is := isR a1 a2 a3) (fun x y v r hx hy hr hp hh ho => ovR_far h1 h2 g1 g2 x y v r hx hy hr hp hh ho) g.pt g.lev g.asc (by omega)
  rw [show (⟨⟨(T9 l).1, (T9 l).2.1, (T9 l).2.2.1⟩, (T9 l).2.2.2.1, (T9 l).2.2.2.2⟩ : S44) = mkNode (treeP 32 l) from rfl, if_pos q1, q2]
  rw [List.filter_congr (fun r hr => isR_eq h1 h2 g1 g2 (g.pt r hr))]
theorem sqZ_lt {a b u v : Int} (h1 : 0 ≤ a) (h2 : 0 ≤ b) (g1 : a < 2147483648) (g2 : b < 2147483648) (h3 : 0 ≤ u) (g3 : u < 2147483648) (h4 : 0 ≤ v) (g4 : v < 2147483648) : sqZ a b u v < 9223372036854775808 := by
 have e1 := sq_lt h1 g1 h3 g3
 have e2 := sq_lt h2 g2 h4 g4
 unfold sqZ
 generalize (a - u) * (a - u) = x at *
 generalize (b - v) * (b - v) = y at *
 clear h1 h2 g1 g2 h3 g3 h4 g4
 omega
theorem sqZ_lt' {a b u v : Int} (h1 : 0 ≤ a) (h2 : 0 ≤ b) (g1 : a < 2147483648) (g2 : b < 2147483648) (h3 : 0 ≤ u) (g3 : u < 2147483648) (h4 : 0 ≤ v) (g4 : v < 2147483648) : sqZ a b u v < 18446744073709551616 := Int.lt_trans (sqZ_lt h1 h2 g1 g2 h3 g3 h4 g4) (by decide)
end Go.Proofs.YtoimgijhekahhaaGreat.P
set_option linter.unusedVariables false
set_option linter.unusedSimpArgs false
namespace Go.Proofs.YtoimgijhekahhaaGreat.P
open Go.RowKit Go.Proofs.YtoimgijhekahhaaGreatOwn Go.Proofs.YtoimgijhekahhaaGreatW.PrintWords Go.Proofs.YtoimgijhekahhaaGreatW.PrintLast Go.Proofs.YtoimgijhekahhaaGreatW.PrintMore
def inR (b0 b1 b2 b3 : Int) (r : Row) : Bool := inB b0 b1 b2 b3 r.f1 r.f2
def windowP (l : List Row) (b0 b1 b2 b3 : Int) : List Row × Int := if boxB b0 b1 b2 b3 = true then (l.filter (inR b0 b1 b2 b3), 0) else ([], 81)
theorem isW_eq (b0 b1 b2 b3 : Int) (r : Row) : isW b0 b1 b2 b3 r = inR b0 b1 b2 b3 r := by unfold isW inR; rw [cell_In.eq]
theorem touch_of {x y v b0 b1 b2 b3 u w : Int} (hr : rightB x y v = true) (hh : hasB x y v u w = true) (hi : inB b0 b1 b2 b3 u w = true) : touchB x y v b0 b1 b2 b3 = true := by
 obtain ⟨_, q1, q2, q3, q4⟩ := hasB_iff.1 hh
 obtain ⟨hb, p1, p2, p3, p4⟩ := inB_iff.1 hi
 exact touchB_iff.2 ⟨hr, hb, by omega, by omega, by omega, by omega⟩
theorem ovW_touch {b0 b1 b2 b3 : Int} (x y v : Int) (r : Row) (hx : 0 ≤ x) (hy : 0 ≤ y) (hr : rightB x y v = true) (hp : ptR r) (hh : hasB x y v r.f1 r.f2 = true) (ho : ovW b0 b1 b2 b3 ⟨x, y, v⟩ = true) : isW b0 b1 b2 b3 r = false := by
 rw [isW_eq]
 have hbd := bd_of_right hr
 unfold ovW at ho
 rw [cell_Touches.eq x y v b0 b1 b2 b3 hx hbd.1 hy hbd.2] at ho
 rw [Bool.eq_false_iff]
 intro hi
 have := touch_of hr hh hi
 rw [this] at ho
 simp at ho
theorem window_eq {l : List Row} (g : Good l) (k : Nat) (b0 b1 b2 b3 : Int) : quad_Window.f k (T9 l).1 (T9 l).2.1 (T9 l).2.2.1 (T9 l).2.2.2.1 (T9 l).2.2.2.2 b0 b1 b2 b3 = some (windowP l b0 b1 b2 b3) := by
 have hlen := g.len
 unfold quad_Window.f windowP
 rw [cell_RightBox.eq, Option.bind_some]
 cases hb : boxB b0 b1 b2 b3 with
 | false => rfl
 | true =>
  rw [if_pos rfl, if_pos rfl]
  obtain ⟨q1, q2⟩ := sort_tree (ov := ovW b0 b1 b2 b3) (is := isW b0 b1 b2 b3) (fun x y v r hx hy hr hp hh ho => ovW_touch x y v r hx hy hr hp hh ho) g.pt g.lev g.asc (by omega)
  rw [show (⟨⟨(T9 l).1, (T9 l).2.1, (T9 l).2.2.1⟩, (T9 l).2.2.2.1, (T9 l).2.2.2.2⟩ : S44) = mkNode (treeP 32 l) from rfl, if_pos q1, q2]
  rw [List.filter_congr (fun r _ => isW_eq b0 b1 b2 b3 r)]
end Go.Proofs.YtoimgijhekahhaaGreat.P
set_option linter.unusedVariables false
set_option linter.unusedSimpArgs false
namespace Go.Proofs.YtoimgijhekahhaaGreat.P
open Go.RowKit Go.Proofs.YtoimgijhekahhaaGreatOwn Go.Proofs.YtoimgijhekahhaaGreatW.PrintWords Go.Proofs.YtoimgijhekahhaaGreatW.PrintLast Go.Proofs.YtoimgijhekahhaaGreatW.PrintMore
theorem same_l0 {l : List Row} (hl : l.length ≤ 1000) : ∀ (m j k : Nat), j + m = l.length → m < k → sphragisref09_Same.l0 k l l (j : Int) = some true
 | m, j, 0, _, h => by omega
 | 0, j, k + 1, hj, _ => by rw [sphragisref09_Same.l0, if_neg (by omega)]
 | m + 1, j, k + 1, hj, hk => by
  rw [sphragisref09_Same.l0, if_pos (by omega), if_pos (by omega), if_pos (by omega), if_neg (by simp), wrap64_id (by omega) (by omega)]
  exact same_l0 hl m (j + 1) k (by omega) (by omega)
theorem same_eq {l : List Row} (hl : l.length ≤ 1000) {k : Nat} (hk : l.length < k) : sphragisref09_Same.f k l l = some true := by
 unfold sphragisref09_Same.f
 rw [if_pos rfl]
 exact same_l0 hl l.length 0 k (by omega) hk
end Go.Proofs.YtoimgijhekahhaaGreat.P
set_option linter.unusedVariables false
set_option linter.unusedSimpArgs false
namespace Go.Proofs.YtoimgijhekahhaaGreat.P
open Go.RowKit Go.Proofs.YtoimgijhekahhaaGreatOwn Go.Proofs.YtoimgijhekahhaaGreatW.PrintWords Go.Proofs.YtoimgijhekahhaaGreatW.PrintLast Go.Proofs.YtoimgijhekahhaaGreatW.PrintMore
theorem dst_pt {a1 a2 : Int} (h1 : 0 ≤ a1) (h2 : 0 ≤ a2) (g1 : a1 < 2147483648) (g2 : a2 < 2147483648) {r : Row} (h : ptR r) : dstR a1 a2 r = sqZ a1 a2 r.f1 r.f2 := by
 have hb := h
 obtain ⟨b1, b2, b3, b4⟩ := hb
 unfold dstR quad_far.f
 rw [cell_Far.eq 0 r.f1 r.f2 0 a1 a2 b1 (by omega) b3 (by omega) h1 h2]
 unfold farR
 rw [if_pos ⟨right_pt h, g1, g2⟩]
 simp only [Option.bind_some, far_pt]
theorem dst_cell {a1 a2 : Int} (h1 : 0 ≤ a1) (h2 : 0 ≤ a2) (g1 : a1 < 2147483648) (g2 : a2 < 2147483648) {x y v : Int} {r : Row} (hx : 0 ≤ x) (hy : 0 ≤ y) (hr : rightB x y v = true) (hp : ptR r) (hh : hasB x y v r.f1 r.f2 = true) : dstC a1 a2 ⟨x, y, v⟩ ≤ dstR a1 a2 r := by
 rw [dst_pt h1 h2 g1 g2 hp]
 have hbd := bd_of_right hr
 unfold dstC
 rw [cell_Far.eq 0 x y v a1 a2 hx hbd.1 hy hbd.2 h1 h2]
 unfold farR
 rw [if_pos ⟨hr, g1, g2⟩]
 obtain ⟨_, q1, q2, q3, q4⟩ := hasB_iff.1 hh
 have k1 := gap_le (n := a1) (lo := x) (hi := x + sz v - 1) (m := r.f1) q1 (by omega)
 have k2 := gap_le (n := a2) (lo := y) (hi := y + sz v - 1) (m := r.f2) q2 (by omega)
 show farZ x y v a1 a2 ≤ sqZ a1 a2 r.f1 r.f2
 unfold farZ sqZ
 omega
theorem sqZ_pos (a b u v : Int) : 0 ≤ sqZ a b u v := by
 have e1 := sq_pos (a - u)
 have e2 := sq_pos (b - v)
 unfold sqZ
 omega
theorem goodL_of {x y : Int} : ∀ {l : List S44}, (∀ n ∈ l, goodN x y n) → goodL x y l
 | [], _ => by rw [goodL]; exact True.intro
 | n :: l, h => by rw [goodL]; exact ⟨h n List.mem_cons_self, goodL_of (fun m hm => h m (List.mem_cons_of_mem _ hm))⟩
theorem good_tree {a1 a2 : Int} (h1 : 0 ≤ a1) (h2 : 0 ≤ a2) (g1 : a1 < 2147483648) (g2 : a2 < 2147483648) : ∀ (n : Nat) (l : List Row), (∀ r ∈ l, ptR r) → levP l < n → goodN a1 a2 (mkNode (treeP n l))
 | 0, l, _, h => by omega
 | n + 1, l, hp, hv => by
  have hall := rows_all_tree (n := n + 1) hp hv
  rw [rowsN_eq, if_neg (by simp)] at hall
  rw [goodN_eq]
  rw [treeP] at hall ⊢
  by_cases h0 : l = []
  ·rw [if_pos h0]
   exact ⟨fun r hr => by simp [mkNode, rowsL] at hr, by simp [mkNode, goodL]⟩
  ·rw [if_neg h0] at hall ⊢
   obtain ⟨hr, hx, hy⟩ := around_right hp
   by_cases hc : l.length ≤ 4 ∨ levP l = 0
   ·rw [if_pos hc] at hall ⊢
    exact ⟨fun r hm => dst_cell h1 h2 g1 g2 hx hy hr (hp r (hall.mem_iff.1 hm)) (around_has hp (hall.mem_iff.1 hm)), by simp [mkNode, goodL]⟩
   ·rw [if_neg hc] at hall ⊢
    refine ⟨fun r hm => dst_cell h1 h2 g1 g2 hx hy hr (hp r (hall.mem_iff.1 hm)) (around_has hp (hall.mem_iff.1 hm)), ?_⟩
    have hv0 : levP l ≠ 0 := fun e => hc (.inr e)
    show goodL a1 a2 (kidsT (treeP n) (partsP l))
    rw [kids_real]
    refine goodL_of (fun m hm => ?_)
    obtain ⟨p, hpm, rfl⟩ := List.mem_map.1 hm
    exact good_tree h1 h2 g1 g2 n p (fun r hr => hp r (real_sub hpm hr)) (by have := real_lev hp hv0 hpm; omega)
theorem wL_map {t : List Row → Nod} {c : Nat} : ∀ {ps : List (List Row)}, (∀ p ∈ ps, wN (mkNode (t p)) ≤ c * p.length) → wL (ps.map fun p => mkNode (t p)) ≤ c * ps.flatten.length
 | [], _ => Nat.zero_le _
 | p :: ps, h => by
  have h1 := h p List.mem_cons_self
  have h2 := wL_map (fun q hq => h q (List.mem_cons_of_mem _ hq))
  rw [List.map_cons, wL, List.flatten_cons, List.length_append, Nat.mul_add]
  omega
theorem w_tree : ∀ (n : Nat) (l : List Row), (∀ r ∈ l, ptR r) → levP l < n → l ≠ [] → wN (mkNode (treeP n l)) ≤ (n + 1) * l.length
 | 0, l, _, h, _ => by omega
 | n + 1, l, hp, hv, h0 => by
  have hpos := List.length_pos_iff.2 h0
  rw [treeP, if_neg h0, wN_eq]
  have e : (n + 1 + 1) * l.length = (n + 1) * l.length + l.length := by rw [Nat.succ_mul]
  by_cases hc : l.length ≤ 4 ∨ levP l = 0
  ·rw [if_pos hc]
   show 1 + l.length + wL [] ≤ _
   have : 1 * l.length ≤ (n + 1) * l.length := Nat.mul_le_mul_right _ (by omega)
   rw [wL, e]
   omega
  ·rw [if_neg hc]
   have hv0 : levP l ≠ 0 := fun e => hc (.inr e)
   show 1 + 0 + wL (kidsT (treeP n) (partsP l)) ≤ _
   rw [kids_real]
   have := wL_map (t := treeP n) (c := n + 1) (ps := realP l) (fun p hpm => w_tree n p (fun r hr => hp r (real_sub hpm hr)) (by have := real_lev hp hv0 hpm; omega) (real_mem hpm).1)
   rw [(real_perm hp hv0).length_eq] at this
   omega
def keyD (a1 a2 : Int) (a b : Row) : Bool := decide (sqZ a1 a2 a.f1 a.f2 < sqZ a1 a2 b.f1 b.f2 ∨ (sqZ a1 a2 a.f1 a.f2 = sqZ a1 a2 b.f1 b.f2 ∧ a.f0 ≤ b.f0))
def sortD (a1 a2 : Int) (l : List Row) : List Row := l.mergeSort (keyD a1 a2)
theorem sortD_perm (a1 a2 : Int) (l : List Row) : (sortD a1 a2 l).Perm l := List.mergeSort_perm _ _
theorem sortD_le (a1 a2 : Int) (l : List Row) : (sortD a1 a2 l).Pairwise fun a b => keyD a1 a2 a b = true := List.pairwise_mergeSort (le := keyD a1 a2) (fun a b c h1 h2 => by unfold keyD at *; simp only [decide_eq_true_eq] at *; omega) (fun a b => by unfold keyD; simp only [Bool.or_eq_true, decide_eq_true_eq]; omega) l
theorem asc_inj {l : List Row} (h : ascS l) {a b : Row} (ha : a ∈ l) (hb : b ∈ l) (e : a.f0 = b.f0) : a = b := nodup_inj (nodup_ids h) ha hb e
theorem sortD_unique {a1 a2 : Int} {l l' : List Row} (h : ascS l) (hp : l'.Perm l) (hs : l'.Pairwise fun a b => keyD a1 a2 a b = true) : l' = sortD a1 a2 l := by
 refine List.Perm.eq_of_pairwise (le := fun a b => keyD a1 a2 a b = true) ?_ hs (sortD_le a1 a2 l) (hp.trans (sortD_perm a1 a2 l).symm)
 intro a b ha hb k1 k2
 unfold keyD at k1 k2
 simp only [decide_eq_true_eq] at k1 k2
 exact asc_inj h (hp.mem_iff.1 ha) ((sortD_perm a1 a2 l).mem_iff.1 hb) (by omega)
theorem sortK_eq {a1 a2 : Int} (h1 : 0 ≤ a1) (h2 : 0 ≤ a2) (g1 : a1 < 2147483648) (g2 : a2 < 2147483648) {l m : List Row} (hp : ∀ r ∈ l, ptR r) (ha : ascS l) (hm : m.Perm l) : sortK a1 a2 m = sortD a1 a2 l := by
 have hpm : (sortK a1 a2 m).Perm l := (List.mergeSort_perm _ _).trans hm
 have hs : (sortK a1 a2 m).Pairwise fun a b => decide (dstR a1 a2 a < dstR a1 a2 b ∨ (dstR a1 a2 a = dstR a1 a2 b ∧ a.f0 ≤ b.f0)) = true := List.pairwise_mergeSort (le := fun a b => decide (dstR a1 a2 a < dstR a1 a2 b ∨ (dstR a1 a2 a = dstR a1 a2 b ∧ a.f0 ≤ b.f0))) (fun a b c h1 h2 => by simp only [decide_eq_true_eq] at *; omega) (fun a b => by simp only [Bool.or_eq_true, decide_eq_true_eq]; omega) m
 refine sortD_unique ha hpm (hs.imp_of_mem (fun hx hy h => ?_))
 rw [dst_pt h1 h2 g1 g2 (hp _ (hpm.mem_iff.1 hx)), dst_pt h1 h2 g1 g2 (hp _ (hpm.mem_iff.1 hy))] at h
 exact h
theorem sortD_lt {a1 a2 : Int} (h1 : 0 ≤ a1) (h2 : 0 ≤ a2) (g1 : a1 < 2147483648) (g2 : a2 < 2147483648) {l : List Row} (hp : ∀ r ∈ l, ptR r) (ha : ascS l) : (sortD a1 a2 l).Pairwise (keyLt a1 a2) := by
 have hnd : ((sortD a1 a2 l).map (·.f0)).Nodup := (((sortD_perm a1 a2 l).map (·.f0)).nodup_iff).2 (nodup_ids ha)
 have hne : (sortD a1 a2 l).Pairwise fun a b => a.f0 ≠ b.f0 := List.pairwise_map.1 hnd
 refine ((sortD_le a1 a2 l).and hne).imp_of_mem (fun hx hy h => ?_)
 unfold keyLt
 rw [dst_pt h1 h2 g1 g2 (hp _ ((sortD_perm a1 a2 l).mem_iff.1 hx)), dst_pt h1 h2 g1 g2 (hp _ ((sortD_perm a1 a2 l).mem_iff.1 hy))]
 have h3 := h.1
 unfold keyD at h3
 simp only [decide_eq_true_eq] at h3
 have h4 := h.2
 omega
def nearP (l : List Row) (a1 a2 a3 : Int) : List Row × Int := if a1 ≥ 2147483648 ∨ a2 ≥ 2147483648 ∨ a3 < 0 then ([], 2) else ((sortD a1 a2 l).take a3.toNat, 0)
theorem near_eq {l : List Row} (g : Good l) (k : Nat) {a1 a2 a3 : Int} (h1 : 0 ≤ a1) (h2 : 0 ≤ a2) : quad_Near.f k (T9 l).1 (T9 l).2.1 (T9 l).2.2.1 (T9 l).2.2.2.1 (T9 l).2.2.2.2 a1 a2 a3 = some (nearP l a1 a2 a3) := by
 have hlen := g.len
 unfold quad_Near.f nearP
 have hm : (mx a1 a2 ≥ 2147483648 ∨ a3 < 0) ↔ (a1 ≥ 2147483648 ∨ a2 ≥ 2147483648 ∨ a3 < 0) := by unfold mx; split <;> omega
 by_cases hb : a1 ≥ 2147483648 ∨ a2 ≥ 2147483648 ∨ a3 < 0
 ·rw [if_pos (hm.2 hb), if_pos hb]
 ·rw [if_neg (fun e => hb (hm.1 e)), if_neg hb]
  have g1 : a1 < 2147483648 := by omega
  have g2 : a2 < 2147483648 := by omega
  rw [show (⟨⟨(T9 l).1, (T9 l).2.1, (T9 l).2.2.1⟩, (T9 l).2.2.2.1, (T9 l).2.2.2.2⟩ : S44) = mkNode (treeP 32 l) from rfl]
  have hperm := rows_all_tree (n := 32) g.pt g.lev
  have hrl : rowsL (fun _ => false) [mkNode (treeP 32 l)] = rowsN (fun _ => false) (mkNode (treeP 32 l)) := by simp [rowsL]
  have hS : sortK a1 a2 (rowsL (fun _ => false) [mkNode (treeP 32 l)]) = sortD a1 a2 l := by rw [hrl]; exact sortK_eq h1 h2 g1 g2 g.pt g.asc hperm
  have hgood := good_tree h1 h2 g1 g2 32 l g.pt g.lev
  rw [goodN_eq] at hgood
  have hw : wN (mkNode (treeP 32 l)) ≤ 100000 := by
   by_cases h0 : l = []
   ·subst h0
    rw [treeP, if_pos rfl]
    decide
   ·have := w_tree 32 l g.pt g.lev h0
    omega
  have hok : okNear a1 a2 (mkNode (treeP 32 l)) = true := by
   unfold okNear
   rw [hS, (goodLB_iff a1 a2 _).2 hgood.2, decide_eq_true hw, decide_eq_true (sortD_lt h1 h2 g1 g2 g.pt g.asc), Bool.and_true, Bool.and_true, Bool.true_and, List.all_eq_true]
   intro r hr
   refine decide_eq_true ?_
   have hrm : r ∈ l := by
    rw [rowsN_eq, if_neg (by simp)] at hperm
    exact hperm.mem_iff.1 hr
   rw [dst_pt h1 h2 g1 g2 (g.pt r hrm)]
   exact sqZ_pos _ _ _ _
  rw [if_pos hok, hS]
end Go.Proofs.YtoimgijhekahhaaGreat.P

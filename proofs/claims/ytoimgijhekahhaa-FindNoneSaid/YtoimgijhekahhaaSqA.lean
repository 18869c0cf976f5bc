/- What Right, RightBox, Has and In say, of the program and of the reference, as one Bool each. Plain: no Go and no memory. -/
import Derived.Laws.BitsAllLaws
import Derived.Laws.Bits64
import Derived.Test.YtoimgijhekahhaaPx3
import Derived.Test.YtoimgijhekahhaaPx6
namespace Go.Proofs.Ytoimgijhekahhaa.P
set_option linter.unusedVariables false
open Go.RowKit Go.Proofs.YtoimgijhekahhaaOwn Go.Proofs.YtoimgijhekahhaaW.PrintWords Go.Proofs.YtoimgijhekahhaaW.PrintLast Go.Proofs.YtoimgijhekahhaaW.PrintMore

/-- A cell's size. -/
def sz (l : Int) : Int := ((2 ^ l.toNat : Nat) : Int)
theorem sz_pos (l : Int) : 1 ≤ sz l := by unfold sz; have := Nat.two_pow_pos l.toNat; omega
theorem sz_le (l : Int) (h : l ≤ 31) : sz l ≤ 2147483648 := by
  unfold sz
  have : 2 ^ l.toNat ≤ 2 ^ 31 := Nat.pow_le_pow_right (by decide) (by omega)
  omega
theorem sz_succ (l : Int) (h : 1 ≤ l) : sz l = 2 * sz (l - 1) := by
  unfold sz
  obtain ⟨n, rfl⟩ := Int.eq_ofNat_of_zero_le (show 0 ≤ l by omega)
  cases n with
  | zero => simp at h
  | succ n =>
    have : (((n + 1 : Nat) : Int) - 1).toNat = n := by omega
    rw [this, Int.toNat_natCast, Nat.pow_succ]
    omega
theorem shl_sz (l : Int) (h0 : 0 ≤ l) (h1 : l ≤ 31) : shl .u64 1 l = sz l := by rw [shl_pow l h0 h1, two_pow]; rfl
theorem wrap_u64 (n : Int) (h0 : 0 ≤ n) (h1 : n < 18446744073709551616) : IntKind.u64.wrap n = n := by rw [IntKind.wrap_u64]; omega

def rightB (x y l : Int) : Bool := decide (0 ≤ l) && decide (l ≤ 31) && decide (x < 2147483648) && decide (y < 2147483648) && decide (x % sz l = 0) && decide (y % sz l = 0)
theorem rightB_iff {x y l : Int} : rightB x y l = true ↔ 0 ≤ l ∧ l ≤ 31 ∧ x < 2147483648 ∧ y < 2147483648 ∧ x % sz l = 0 ∧ y % sz l = 0 := by
  simp [rightB, and_assoc]
def boxB (a b c d : Int) : Bool := decide (a ≤ c) && decide (b ≤ d) && decide (c < 2147483648) && decide (d < 2147483648)
theorem boxB_iff {a b c d : Int} : boxB a b c d = true ↔ a ≤ c ∧ b ≤ d ∧ c < 2147483648 ∧ d < 2147483648 := by simp [boxB, and_assoc]
def hasB (x y l u v : Int) : Bool := rightB x y l && decide (x ≤ u) && decide (y ≤ v) && decide (u < x + sz l) && decide (v < y + sz l)
theorem hasB_iff {x y l u v : Int} : hasB x y l u v = true ↔ rightB x y l = true ∧ x ≤ u ∧ y ≤ v ∧ u < x + sz l ∧ v < y + sz l := by simp [hasB, and_assoc]
def inB (a b c d u v : Int) : Bool := boxB a b c d && decide (a ≤ u) && decide (u ≤ c) && decide (b ≤ v) && decide (v ≤ d)
theorem inB_iff {a b c d u v : Int} : inB a b c d u v = true ↔ boxB a b c d = true ∧ a ≤ u ∧ u ≤ c ∧ b ≤ v ∧ v ≤ d := by simp [inB, and_assoc]

theorem or_and_low (x y n : Nat) : ((x ||| y) &&& (2 ^ n - 1) = 0) ↔ (x % 2 ^ n = 0 ∧ y % 2 ^ n = 0) := by
  rw [Nat.and_two_pow_sub_one_eq_mod, Nat.or_mod_two_pow, Nat.or_eq_zero_iff]

theorem right_low (x y l : Int) (hx : 0 ≤ x) (hx1 : x < 4294967296) (hy : 0 ≤ y) (hy1 : y < 4294967296) (h0 : 0 ≤ l) (h1 : l ≤ 31) :
    (Go.bits .and .u32 (Go.bits .or .u32 x y) ((IntKind.u64.wrap (shl .u64 1 l - 1)) % 4294967296) = 0) ↔ (x % sz l = 0 ∧ y % sz l = 0) := by
  have s1 := sz_pos l
  have s2 := sz_le l h1
  rw [shl_sz l h0 h1, wrap_u64 _ (by omega) (by omega)]
  obtain ⟨a, rfl⟩ := Int.eq_ofNat_of_zero_le hx
  obtain ⟨b, rfl⟩ := Int.eq_ofNat_of_zero_le hy
  have e : (sz l - 1) % 4294967296 = ((2 ^ l.toNat - 1 : Nat) : Int) := by
    have := Nat.two_pow_pos l.toNat
    unfold sz at s1 s2 ⊢
    omega
  rw [e, u32_or_nat a b (by omega) (by omega)]
  have hlt : a ||| b < 4294967296 := Nat.or_lt_two_pow (n := 32) (by omega) (by omega)
  rw [u32_and_nat _ _ hlt (by have : 2 ^ l.toNat ≤ 2 ^ 31 := Nat.pow_le_pow_right (by decide) (by omega)
                              omega)]
  have := or_and_low a b l.toNat
  unfold sz
  constructor
  · intro h
    have h' : (a ||| b) &&& (2 ^ l.toNat - 1) = 0 := by omega
    have := this.1 h'
    omega
  · intro h
    have := this.2 ⟨by omega, by omega⟩
    omega

theorem cell_Right.eq (x y l : Int) (hx : 0 ≤ x) (hx1 : x < 4294967296) (hy : 0 ≤ y) (hy1 : y < 4294967296) : cell_Right.f x y l = some (rightB x y l) := by
  unfold cell_Right.f cell_size.f
  by_cases h1 : l < 0
  · rw [if_pos h1]; congr 1; symm; rw [Bool.eq_false_iff]; intro h; have := (rightB_iff.1 h).1; omega
  · rw [if_neg h1]
    by_cases h2 : l > 31
    · rw [if_pos h2]; congr 1; symm; rw [Bool.eq_false_iff]; intro h; have := (rightB_iff.1 h).2.1; omega
    · rw [if_neg h2, if_pos (by omega)]
      simp only [Option.bind_some]
      have hl := right_low x y l hx hx1 hy hy1 (by omega) (by omega)
      by_cases h3 : x % sz l = 0 ∧ y % sz l = 0
      · rw [if_pos (hl.2 h3)]
        congr 1
        rw [Bool.eq_iff_iff, decide_eq_true_iff, rightB_iff]
        unfold mx
        constructor
        · intro h; refine ⟨by omega, by omega, ?_, ?_, h3.1, h3.2⟩ <;> (split at h <;> omega)
        · intro h; split <;> omega
      · rw [if_neg (fun h => h3 (hl.1 h))]
        congr 1; symm; rw [Bool.eq_false_iff]; intro h; exact h3 ⟨(rightB_iff.1 h).2.2.2.2.1, (rightB_iff.1 h).2.2.2.2.2⟩

theorem cell_RightBox.eq (a b c d : Int) : cell_RightBox.f a b c d = some (boxB a b c d) := by
  unfold cell_RightBox.f mx
  by_cases h1 : a ≤ c
  · rw [if_pos h1]
    by_cases h2 : b ≤ d
    · rw [if_pos h2]; congr 1; rw [Bool.eq_iff_iff, decide_eq_true_iff, boxB_iff]
      constructor
      · intro h; split at h <;> omega
      · intro h; split <;> omega
    · rw [if_neg h2]; congr 1; symm; rw [Bool.eq_false_iff]; intro h; exact h2 (boxB_iff.1 h).2.1
  · rw [if_neg h1]; congr 1; symm; rw [Bool.eq_false_iff]; intro h; exact h1 (boxB_iff.1 h).1
theorem in_chain (a b c d u v : Int) : (if boxB a b c d = true then (if u ≥ a then (if u ≤ c then (if v ≥ b then (some (decide (v ≤ d))) else (some false)) else (some false)) else (some false)) else (some false)) = some (inB a b c d u v) := by
  unfold inB
  cases boxB a b c d
  · rfl
  · rw [if_pos rfl]
    by_cases h1 : u ≥ a
    · rw [if_pos h1]
      by_cases h2 : u ≤ c
      · rw [if_pos h2]
        by_cases h3 : v ≥ b
        · rw [if_pos h3]; simp [show a ≤ u from h1, h2, show b ≤ v from h3]
        · rw [if_neg h3]; simp [show ¬ b ≤ v from h3]
      · rw [if_neg h2]; simp [h2]
    · rw [if_neg h1]; simp [show ¬ a ≤ u from h1]
theorem cell_In.eq (a b c d u v : Int) : cell_In.f a b c d u v = some (inB a b c d u v) := by
  unfold cell_In.f; rw [cell_RightBox.eq]; exact in_chain a b c d u v
/-- A right cell's far corner lies in the plane. -/
theorem right_far {x l : Int} (h0 : 0 ≤ l) (h1 : l ≤ 31) (h2 : x < 2147483648) (h4 : x % sz l = 0) : x + sz l ≤ 2147483648 := by
  have s1 := sz_pos l
  have e : (2147483648 : Int) % sz l = 0 := by
    obtain ⟨n, rfl⟩ := Int.eq_ofNat_of_zero_le h0
    unfold sz
    rw [Int.toNat_natCast]
    have : (2147483648 : Nat) % 2 ^ n = 0 := Nat.mod_eq_zero_of_dvd (Nat.pow_dvd_pow 2 (show n ≤ 31 by omega))
    rw [show (2147483648 : Int) = ((2147483648 : Nat) : Int) from rfl, ← Int.natCast_emod, this]
    rfl
  have d1 := Int.mul_ediv_add_emod x (sz l)
  have d2 := Int.mul_ediv_add_emod 2147483648 (sz l)
  rw [h4] at d1
  rw [e] at d2
  have hlt : x / sz l < 2147483648 / sz l := by
    apply Int.lt_of_mul_lt_mul_left (a := sz l) _ (by omega)
    omega
  have : sz l * (x / sz l + 1) ≤ sz l * (2147483648 / sz l) := Int.mul_le_mul_of_nonneg_left (by omega) (by omega)
  rw [Int.mul_add, Int.mul_one] at this
  omega
theorem cell_all.eq (x y l : Int) (hx : 0 ≤ x) (hy : 0 ≤ y) (h : rightB x y l = true) : cell_all.f x y l = some (x, y, x + sz l - 1, y + sz l - 1) := by
  obtain ⟨h0, h1, h2, h3, h4, h5⟩ := rightB_iff.1 h
  have s1 := sz_pos l
  have s2 := sz_le l h1
  have f1 := right_far h0 h1 h2 h4
  have f2 := right_far h0 h1 h3 h5
  unfold cell_all.f cell_size.f
  rw [if_pos h0]
  simp only [Option.bind_some]
  rw [shl_sz l h0 h1, wrap_u64 _ (by omega) (by omega), Int.emod_eq_of_lt (by omega) (by omega), Int.emod_eq_of_lt (by omega) (by omega)]
  congr 1
  simp only [Prod.mk.injEq, true_and]
  omega
theorem cell_Has.eq (x y l u v : Int) (hx : 0 ≤ x) (hx1 : x < 4294967296) (hy : 0 ≤ y) (hy1 : y < 4294967296) : cell_Has.f x y l u v = some (hasB x y l u v) := by
  unfold cell_Has.f
  rw [cell_Right.eq x y l hx hx1 hy hy1]
  simp only [Option.bind_some]
  cases hr : rightB x y l with
  | false => rw [if_neg (by simp)]; unfold hasB; rw [hr]; rfl
  | true =>
    obtain ⟨h0, h1, h2, h3, h4, h5⟩ := rightB_iff.1 hr
    have s1 := sz_pos l
    have f1 := right_far h0 h1 h2 h4
    have f2 := right_far h0 h1 h3 h5
    rw [if_pos rfl, cell_all.eq x y l hx hy hr]
    simp only [Option.bind_some]
    rw [cell_In.eq]
    simp only [Option.bind_some]
    congr 1
    rw [Bool.eq_iff_iff, inB_iff, hasB_iff, boxB_iff]
    simp only [hr, true_and]
    omega
end Go.Proofs.Ytoimgijhekahhaa.P

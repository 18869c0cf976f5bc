/- What Least says, of the program and of the reference. Plain. -/
import Derived.Test.YtoimgijhekahhaaSqA
import Derived.Lib.ItoaNum
import Derived.Test.YtoimgijhekahhaaPx3
import Derived.Test.YtoimgijhekahhaaPx5
import Derived.Test.YtoimgijhekahhaaPx6
namespace Go.Proofs.Ytoimgijhekahhaa.P
set_option linter.unusedVariables false
open Go.RowKit Go.Proofs.YtoimgijhekahhaaOwn Go.Proofs.YtoimgijhekahhaaW.PrintWords Go.Proofs.YtoimgijhekahhaaW.PrintLast Go.Proofs.YtoimgijhekahhaaW.PrintMore

/-- Do two points lie in one cell of a level? -/
def oneB (x y u v : Int) (n : Nat) : Bool := decide (x / sz n = u / sz n) && decide (y / sz n = v / sz n)
theorem oneB_iff {x y u v : Int} {n : Nat} : oneB x y u v n = true ↔ x / sz n = u / sz n ∧ y / sz n = v / sz n := by simp [oneB]
theorem sz_nat (n : Nat) : sz (n : Int) = ((2 ^ n : Nat) : Int) := by unfold sz; simp
/-- The cell of a level that has a point: its least corner. -/
def lowC (x : Int) (n : Nat) : Int := x / sz n * sz n
theorem lowC_bd {x : Int} (h0 : 0 ≤ x) (n : Nat) : 0 ≤ lowC x n ∧ lowC x n ≤ x ∧ x < lowC x n + sz n ∧ lowC x n % sz n = 0 := by
  have s := sz_pos (n : Int)
  unfold lowC
  have d := Int.mul_ediv_add_emod x (sz n)
  have m0 := Int.emod_nonneg x (show sz n ≠ 0 by omega)
  have m1 := Int.emod_lt_of_pos x (show 0 < sz n by omega)
  rw [Int.mul_comm] at d
  exact ⟨Int.mul_nonneg (Int.ediv_nonneg h0 (by omega)) (by omega), by omega, by omega, Int.mul_emod_left _ _⟩
theorem lowC_eq {x u : Int} (h0 : 0 ≤ x) (n : Nat) : (lowC x n ≤ u ∧ u < lowC x n + sz n) ↔ x / sz n = u / sz n := by
  have s := sz_pos (n : Int)
  unfold lowC
  constructor
  · rintro ⟨h1, h2⟩
    have a1 : x / sz n ≤ u / sz n := Int.le_ediv_of_mul_le (by omega) h1
    have a2 : u / sz n < x / sz n + 1 := Int.ediv_lt_of_lt_mul (by omega) (by rw [Int.add_mul]; omega)
    omega
  · intro h
    rw [h]
    have d := Int.mul_ediv_add_emod u (sz n)
    have m0 := Int.emod_nonneg u (show sz n ≠ 0 by omega)
    have m1 := Int.emod_lt_of_pos u (show 0 < sz n by omega)
    rw [Int.mul_comm] at d
    omega
theorem div_up {x u : Int} {n : Nat} (h : x / sz n = u / sz n) : x / sz (n + 1 : Nat) = u / sz (n + 1 : Nat) := by
  have e : sz ((n + 1 : Nat) : Int) = sz n * 2 := by rw [sz_nat, sz_nat, Nat.pow_succ]; omega
  rw [e, ← Int.ediv_ediv_of_nonneg (by have := sz_pos (n : Int); omega), ← Int.ediv_ediv_of_nonneg (by have := sz_pos (n : Int); omega), h]
theorem oneB_up {x y u v : Int} {n : Nat} (h : oneB x y u v n = true) : oneB x y u v (n + 1) = true := by
  obtain ⟨h1, h2⟩ := oneB_iff.1 h
  exact oneB_iff.2 ⟨div_up h1, div_up h2⟩
theorem oneB_le {x y u v : Int} {n m : Nat} (h : oneB x y u v n = true) (hm : n ≤ m) : oneB x y u v m = true := by
  obtain ⟨d, rfl⟩ := Nat.exists_eq_add_of_le hm
  induction d with
  | zero => exact h
  | succ d ih => exact oneB_up (ih (by omega))
theorem oneB_top {x y u v : Int} (hx : 0 ≤ x) (hx1 : x < 2147483648) (hy : 0 ≤ y) (hy1 : y < 2147483648) (hu : 0 ≤ u) (hu1 : u < 2147483648) (hv : 0 ≤ v) (hv1 : v < 2147483648) : oneB x y u v 31 = true := by
  have e : sz ((31 : Nat) : Int) = 2147483648 := by decide +kernel
  rw [oneB_iff, e]
  omega

/-- The least level of two points' cell. -/
def leastL (x y u v : Int) : Nat := Lib.bitLen ((x.toNat ^^^ u.toNat) ||| (y.toNat ^^^ v.toNat))
theorem xor_zero_iff (a b : Nat) : a ^^^ b = 0 ↔ a = b := by
  constructor
  · intro h
    apply Nat.eq_of_testBit_eq
    intro i
    have e : (a ^^^ b).testBit i = false := by rw [h]; simp
    rw [Nat.testBit_xor] at e
    revert e
    cases a.testBit i <;> cases b.testBit i <;> simp
  · rintro rfl; exact Nat.xor_self a
theorem xor_lt (a b n : Nat) : (a ^^^ b < 2 ^ n) ↔ a / 2 ^ n = b / 2 ^ n := by
  rw [← Nat.div_eq_zero_iff_lt (Nat.two_pow_pos n), ← Nat.shiftRight_eq_div_pow, Nat.shiftRight_xor_distrib, xor_zero_iff, Nat.shiftRight_eq_div_pow, Nat.shiftRight_eq_div_pow]
theorem or_lt (a b n : Nat) : (a ||| b < 2 ^ n) ↔ (a < 2 ^ n ∧ b < 2 ^ n) := by
  constructor
  · intro h; exact ⟨Nat.lt_of_le_of_lt Nat.left_le_or h, Nat.lt_of_le_of_lt Nat.right_le_or h⟩
  · intro h; exact Nat.or_lt_two_pow h.1 h.2
theorem bitLen_iff (x k : Nat) (hx : x < 2 ^ 64) (hk : k ≤ 64) : Lib.bitLen x ≤ k ↔ x < 2 ^ k := by
  constructor
  · intro h
    by_cases h0 : x = 0
    · rw [h0]; exact Nat.two_pow_pos k
    · have := (Lib.bitLenAux_bounds 64 x hx h0).2.2
      exact Nat.lt_of_lt_of_le this (Nat.pow_le_pow_right (by decide) h)
  · exact Lib.bitLen_le x k hk
theorem leastL_iff {x y u v : Int} (hx : 0 ≤ x) (hx1 : x < 2147483648) (hy : 0 ≤ y) (hy1 : y < 2147483648) (hu : 0 ≤ u) (hu1 : u < 2147483648) (hv : 0 ≤ v) (hv1 : v < 2147483648) (n : Nat) (hn : n ≤ 64) :
    leastL x y u v ≤ n ↔ oneB x y u v n = true := by
  obtain ⟨a, rfl⟩ := Int.eq_ofNat_of_zero_le hx
  obtain ⟨b, rfl⟩ := Int.eq_ofNat_of_zero_le hy
  obtain ⟨c, rfl⟩ := Int.eq_ofNat_of_zero_le hu
  obtain ⟨d, rfl⟩ := Int.eq_ofNat_of_zero_le hv
  unfold leastL
  simp only [Int.toNat_natCast]
  have b1 : a ^^^ c < 2 ^ 64 := Nat.xor_lt_two_pow (by omega) (by omega)
  have b2 : b ^^^ d < 2 ^ 64 := Nat.xor_lt_two_pow (by omega) (by omega)
  rw [bitLen_iff _ n ((or_lt _ _ 64).2 ⟨b1, b2⟩) hn, or_lt, xor_lt, xor_lt, oneB_iff, sz_nat, ← Int.natCast_ediv, ← Int.natCast_ediv, ← Int.natCast_ediv, ← Int.natCast_ediv]
  omega

def leastR (x y u v : Int) : Int × Int × Int × Int := if x < 2147483648 ∧ y < 2147483648 ∧ u < 2147483648 ∧ v < 2147483648 then (lowC x (leastL x y u v), lowC y (leastL x y u v), (leastL x y u v : Int), 0) else (0, 0, 0, 2)

theorem andNot_low (a n : Nat) (ha : a < 2 ^ 32) (hn : n ≤ 32) : a &&& (4294967295 - (2 ^ n - 1)) = a / 2 ^ n * 2 ^ n := by
  have e : 4294967295 - (2 ^ n - 1) = 2 ^ 32 - ((2 ^ n - 1) + 1) := by omega
  have hlt : 2 ^ n - 1 < 2 ^ 32 := by
    have : 2 ^ n ≤ 2 ^ 32 := Nat.pow_le_pow_right (by decide) hn
    have := Nat.two_pow_pos n
    omega
  apply Nat.eq_of_testBit_eq
  intro i
  rw [Nat.testBit_and, e, Nat.testBit_two_pow_sub_succ hlt, Nat.testBit_two_pow_sub_one, Nat.mul_comm, Nat.testBit_two_pow_mul, Nat.testBit_div_two_pow]
  by_cases h1 : i < 32
  · by_cases h2 : i < n
    · simp [h1, h2, show ¬ n ≤ i by omega]
    · simp [h1, h2, show n ≤ i by omega]
  · have : a.testBit i = false := Nat.testBit_lt_two_pow (Nat.lt_of_lt_of_le ha (Nat.pow_le_pow_right (by decide) (by omega)))
    by_cases h2 : n ≤ i
    · simp [this, h2]
    · omega
theorem cell_around.eq {x y : Int} (hx : 0 ≤ x) (hx1 : x < 4294967296) (hy : 0 ≤ y) (hy1 : y < 4294967296) (n : Nat) (hn : n ≤ 31) : cell_around.f x y n = some (lowC x n, lowC y n, (n : Int)) := by
  unfold cell_around.f
  rw [if_pos (by omega)]
  have s1 := sz_pos (n : Int)
  have s2 := sz_le (n : Int) (by omega)
  have e : shl .u32 1 (n : Int) = sz n := by
    unfold shl
    rw [Int.toNat_natCast, Nat.min_eq_left (by simp [IntKind.bits]; omega), IntKind.wrap_u32, Int.one_mul, two_pow, ← sz_nat]
    omega
  rw [e]
  have e2 : (sz n - 1) % 4294967296 = ((2 ^ n - 1 : Nat) : Int) := by
    have := Nat.two_pow_pos n
    rw [sz_nat] at *
    omega
  rw [e2]
  have hlt : 2 ^ n - 1 < 4294967296 := by rw [sz_nat] at s2; omega
  obtain ⟨a, rfl⟩ := Int.eq_ofNat_of_zero_le hx
  obtain ⟨b, rfl⟩ := Int.eq_ofNat_of_zero_le hy
  rw [u32_andNot_nat a _ (by omega) hlt, u32_andNot_nat b _ (by omega) hlt, andNot_low a n (by omega) (by omega), andNot_low b n (by omega) (by omega)]
  unfold lowC
  rw [sz_nat, ← Int.natCast_ediv, ← Int.natCast_ediv, ← Int.natCast_mul, ← Int.natCast_mul]
theorem cell_Least.eq {x y u v : Int} (hx : 0 ≤ x) (hx1 : x < 4294967296) (hy : 0 ≤ y) (hy1 : y < 4294967296) (hu : 0 ≤ u) (hu1 : u < 4294967296) (hv : 0 ≤ v) (hv1 : v < 4294967296) : cell_Least.f x y u v = some (leastR x y u v) := by
  unfold cell_Least.f leastR
  have hm : mx (mx (mx x y) u) v ≥ 2147483648 ↔ ¬ (x < 2147483648 ∧ y < 2147483648 ∧ u < 2147483648 ∧ v < 2147483648) := by
    unfold mx; repeat' split
    all_goals omega
  by_cases hp : x < 2147483648 ∧ y < 2147483648 ∧ u < 2147483648 ∧ v < 2147483648
  · rw [if_neg (fun h => hm.1 h hp), if_pos hp]
    obtain ⟨p1, p2, p3, p4⟩ := hp
    have hL := leastL_iff hx p1 hy p2 hu p3 hv p4
    have h31 : leastL x y u v ≤ 31 := (hL 31 (by omega)).2 (oneB_top hx p1 hy p2 hu p3 hv p4)
    have e : bits_Len32.f (Go.bits .or .u32 (Go.bits .xor .u32 x u) (Go.bits .xor .u32 y v)) = some (leastL x y u v : Int) := by
      obtain ⟨a, rfl⟩ := Int.eq_ofNat_of_zero_le hx
      obtain ⟨b, rfl⟩ := Int.eq_ofNat_of_zero_le hy
      obtain ⟨c, rfl⟩ := Int.eq_ofNat_of_zero_le hu
      obtain ⟨d, rfl⟩ := Int.eq_ofNat_of_zero_le hv
      have b1 : a ^^^ c < 4294967296 := Nat.xor_lt_two_pow (n := 32) (by omega) (by omega)
      have b2 : b ^^^ d < 4294967296 := Nat.xor_lt_two_pow (n := 32) (by omega) (by omega)
      rw [u32_xor_nat a c (by omega) (by omega), u32_xor_nat b d (by omega) (by omega), u32_or_nat _ _ b1 b2]
      have b3 : (a ^^^ c) ||| (b ^^^ d) < 4294967296 := Nat.or_lt_two_pow (n := 32) b1 b2
      unfold bits_Len32.f leastL
      rw [if_pos ⟨by omega, by omega⟩]
      simp only [Int.toNat_natCast]
    rw [e]
    simp only [Option.bind_some]
    rw [cell_around.eq hx hx1 hy hy1 _ h31, cell_around.eq hu hu1 hv hv1 _ h31]
    simp only [Option.bind_some]
    obtain ⟨o1, o2⟩ := oneB_iff.1 ((hL _ (by omega)).1 (Nat.le_refl _))
    have l1 : lowC u (leastL x y u v) = lowC x (leastL x y u v) := by unfold lowC; rw [o1]
    have l2 : lowC v (leastL x y u v) = lowC y (leastL x y u v) := by unfold lowC; rw [o2]
    rw [l1, l2]
    simp
  · rw [if_pos (hm.2 hp), if_neg hp]

theorem ref_low {x : Int} (hx : 0 ≤ x) (hx1 : x < 4294967296) (n : Nat) (hn : n ≤ 31) : (shl .u64 (shr .u64 (IntKind.u64.wrap x) (IntKind.u64.wrap (n : Int))) (IntKind.u64.wrap (n : Int))) % 4294967296 = lowC x n := by
  have b := lowC_bd hx n
  rw [wrap_u64 x hx (by omega), wrap_u64 (n : Int) (by omega) (by omega)]
  unfold shl shr
  rw [Int.toNat_natCast, Nat.min_eq_left (by simp [IntKind.bits]; omega), two_pow, ← sz_nat]
  have : IntKind.u64.wrap (x / sz n * sz n) = lowC x n := wrap_u64 _ b.1 (by have := b.2.1; unfold lowC at this; omega)
  rw [this]
  exact Int.emod_eq_of_lt b.1 (by omega)
theorem ref_has {x y u v : Int} (hx : 0 ≤ x) (hy : 0 ≤ y) (n : Nat) (hn : n ≤ 31) (hp : x < 2147483648 ∧ y < 2147483648) : hasB (lowC x n) (lowC y n) n u v = oneB x y u v n := by
  have b1 := lowC_bd hx n
  have b2 := lowC_bd hy n
  have hr : rightB (lowC x n) (lowC y n) n = true := rightB_iff.2 ⟨by omega, by omega, by omega, by omega, b1.2.2.2, b2.2.2.2⟩
  have i1 := lowC_eq (u := u) hx n
  have i2 := lowC_eq (u := v) hy n
  rw [Bool.eq_iff_iff, hasB_iff, oneB_iff, ← i1, ← i2]
  simp only [hr, true_and]
  constructor
  · rintro ⟨h1, h2, h3, h4⟩; exact ⟨⟨h1, h3⟩, h2, h4⟩
  · rintro ⟨⟨h1, h3⟩, h2, h4⟩; exact ⟨h1, h2, h3, h4⟩
theorem ref_has_no {x y u v : Int} (hx : 0 ≤ x) (hy : 0 ≤ y) (hu : 0 ≤ u) (hv : 0 ≤ v) (n : Nat) (hn : n ≤ 31) (hp : ¬ (x < 2147483648 ∧ y < 2147483648 ∧ u < 2147483648 ∧ v < 2147483648)) : hasB (lowC x n) (lowC y n) n u v = false := by
  rw [Bool.eq_false_iff]
  intro h
  obtain ⟨hr, h1, h2, h3, h4⟩ := hasB_iff.1 h
  obtain ⟨r0, r1, r2, r3, r4, r5⟩ := rightB_iff.1 hr
  have f1 := right_far r0 r1 r2 r4
  have f2 := right_far r0 r1 r3 r5
  have b1 := lowC_bd hx n
  have b2 := lowC_bd hy n
  omega
theorem step_w (n : Nat) (hn : n ≤ 31) : wrap64 ((n : Int) + 1) = ((n + 1 : Nat) : Int) := by unfold wrap64; omega
theorem step_c1 (n : Nat) (hn : n ≤ 31) : (n : Int) ≤ 31 := by omega
theorem step_c2 (n : Nat) (hn : n ≤ 31) : 0 ≤ IntKind.u64.wrap (n : Int) := by rw [wrap_u64 (n : Int) (by omega) (by omega)]; omega
end Go.Proofs.Ytoimgijhekahhaa.P

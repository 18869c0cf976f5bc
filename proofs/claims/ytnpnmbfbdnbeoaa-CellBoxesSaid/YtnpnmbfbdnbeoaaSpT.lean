/- What Touches and Within say, of the program and of the reference. Plain. -/
import Derived.Test.YtnpnmbfbdnbeoaaSpA
import Derived.Test.YtnpnmbfbdnbeoaaPx17
import Derived.Test.YtnpnmbfbdnbeoaaPx18
import Derived.Test.YtnpnmbfbdnbeoaaPx19
import Derived.Test.YtnpnmbfbdnbeoaaPx20
namespace Go.Proofs.Ytnpnmbfbdnbeoaa.P
set_option linter.unusedVariables false
open Go.RowKit Go.Proofs.YtnpnmbfbdnbeoaaOwn Go.Proofs.YtnpnmbfbdnbeoaaW.PrintWords Go.Proofs.YtnpnmbfbdnbeoaaW.PrintLast Go.Proofs.YtnpnmbfbdnbeoaaW.PrintMore

def touchB (x y l a b c d : Int) : Bool := rightB x y l && boxB a b c d && decide (x ≤ c) && decide (a ≤ x + sz l - 1) && decide (y ≤ d) && decide (b ≤ y + sz l - 1)
theorem touchB_iff {x y l a b c d : Int} : touchB x y l a b c d = true ↔ rightB x y l = true ∧ boxB a b c d = true ∧ x ≤ c ∧ a ≤ x + sz l - 1 ∧ y ≤ d ∧ b ≤ y + sz l - 1 := by simp [touchB, and_assoc]
def withinB (x y l a b c d : Int) : Bool := rightB x y l && boxB a b c d && decide (a ≤ x) && decide (b ≤ y) && decide (x + sz l - 1 ≤ c) && decide (y + sz l - 1 ≤ d)
theorem withinB_iff {x y l a b c d : Int} : withinB x y l a b c d = true ↔ rightB x y l = true ∧ boxB a b c d = true ∧ a ≤ x ∧ b ≤ y ∧ x + sz l - 1 ≤ c ∧ y + sz l - 1 ≤ d := by simp [withinB, and_assoc]

theorem four_chain (p q r s : Prop) [Decidable p] [Decidable q] [Decidable r] [Decidable s] : (if p then (if q then (if r then some (decide s) else some false) else some false) else some false) = some (decide p && decide q && decide r && decide s) := by
  by_cases hp : p <;> by_cases hq : q <;> by_cases hr : r <;> simp [hp, hq, hr]

theorem cell_Touches.eq (x y l a b c d : Int) (hx : 0 ≤ x) (hx1 : x < 4294967296) (hy : 0 ≤ y) (hy1 : y < 4294967296) : cell_Touches.f x y l a b c d = some (touchB x y l a b c d) := by
  unfold cell_Touches.f touchB
  rw [cell_Right.eq x y l hx hx1 hy hy1, cell_RightBox.eq]
  simp only [Option.bind_some]
  cases hr : rightB x y l with
  | false => rw [if_neg (by simp)]; rfl
  | true =>
    rw [if_pos rfl]
    cases hb : boxB a b c d with
    | false => rw [if_neg (by simp)]; rfl
    | true =>
      rw [if_pos rfl, cell_all.eq x y l hx hy hr]
      simp only [Option.bind_some]
      rw [four_chain]
      rfl
theorem ref_Touches.eq (k : Nat) (x y l a b c d : Int) (hx : 0 ≤ x) (hx1 : x < 4294967296) (hy : 0 ≤ y) (hy1 : y < 4294967296) (ha : 0 ≤ a) (ha1 : a < 4294967296) (hb : 0 ≤ b) (hb1 : b < 4294967296) (hc : 0 ≤ c) (hc1 : c < 4294967296) (hd : 0 ≤ d) (hd1 : d < 4294967296) :
    sphragisref08_Touches.f (k + 1) x y l a b c d = some (touchB x y l a b c d) := by
  unfold sphragisref08_Touches.f touchB
  rw [ref_Right.eq k x y l hx hx1 hy hy1, ref_RightBox.eq]
  simp only [Option.bind_some]
  have jt : sphragisref08_Touches.j0 (k + 1) true x y l a b c d = some false := by simp only [sphragisref08_Touches.j0]; rfl
  cases hr : rightB x y l with
  | false => rw [if_neg (by simp), jt]; rfl
  | true =>
    rw [if_pos rfl]
    cases hB : boxB a b c d with
    | false => rw [show (!false) = true from rfl, jt]; rfl
    | true =>
      simp only [sphragisref08_Touches.j0]
      obtain ⟨r0, r1, r2, r3, r4, r5⟩ := rightB_iff.1 hr
      have s1 := sz_pos l
      have s2 := sz_le l r1
      rw [if_neg (by simp), ref_Size.eq x y l r0 r1]
      simp only [Option.bind_some]
      rw [wrap_u64 x hx (by omega), wrap_u64 y hy (by omega), wrap_u64 a ha (by omega), wrap_u64 b hb (by omega), wrap_u64 c hc (by omega), wrap_u64 d hd (by omega), wrap_u64 (x + sz l) (by omega) (by omega), wrap_u64 (y + sz l) (by omega) (by omega), wrap_u64 (x + sz l - 1) (by omega) (by omega), wrap_u64 (y + sz l - 1) (by omega) (by omega), four_chain]
      congr 1
      rw [Bool.eq_iff_iff]
      simp [and_assoc]
      omega
theorem cell_Within.eq (x y l a b c d : Int) (hx : 0 ≤ x) (hx1 : x < 4294967296) (hy : 0 ≤ y) (hy1 : y < 4294967296) : cell_Within.f x y l a b c d = some (withinB x y l a b c d) := by
  unfold cell_Within.f withinB
  rw [cell_all.eq 0 0 0 (by omega) (by omega) (by decide +kernel), cell_Right.eq x y l hx hx1 hy hy1]
  simp only [Option.bind_some]
  cases hr : rightB x y l with
  | false => rw [if_neg (by simp), if_neg (by simp)]; rfl
  | true =>
    rw [if_pos rfl, cell_all.eq x y l hx hy hr]
    simp only [Option.bind_some, if_true]
    rw [cell_In.eq, cell_In.eq]
    simp only [Option.bind_some]
    have s1 := sz_pos l
    cases h1 : inB a b c d x y with
    | false =>
      rw [if_neg (by simp)]
      congr 1; symm; rw [Bool.eq_false_iff]; intro h
      have h' : boxB a b c d = true ∧ a ≤ x ∧ b ≤ y ∧ x + sz l - 1 ≤ c ∧ y + sz l - 1 ≤ d := by simpa [and_assoc] using h
      have := inB_iff.2 ⟨h'.1, h'.2.1, show x ≤ c by omega, h'.2.2.1, show y ≤ d by omega⟩
      rw [h1] at this; simp at this
    | true =>
      rw [if_pos rfl]
      congr 1
      rw [Bool.eq_iff_iff, inB_iff]
      have h2 := inB_iff.1 h1
      simp [and_assoc, h2.1]
      omega
theorem ref_Within.eq (k : Nat) (x y l a b c d : Int) (hx : 0 ≤ x) (hx1 : x < 4294967296) (hy : 0 ≤ y) (hy1 : y < 4294967296) (ha : 0 ≤ a) (ha1 : a < 4294967296) (hb : 0 ≤ b) (hb1 : b < 4294967296) (hc : 0 ≤ c) (hc1 : c < 4294967296) (hd : 0 ≤ d) (hd1 : d < 4294967296) :
    sphragisref08_Within.f (k + 1) x y l a b c d = some (withinB x y l a b c d) := by
  unfold sphragisref08_Within.f withinB
  rw [ref_Right.eq k x y l hx hx1 hy hy1, ref_RightBox.eq]
  simp only [Option.bind_some]
  have jt : sphragisref08_Within.j0 (k + 1) true x y l a b c d = some false := by simp only [sphragisref08_Within.j0]; rfl
  cases hr : rightB x y l with
  | false => rw [if_neg (by simp), jt]; rfl
  | true =>
    rw [if_pos rfl]
    cases hB : boxB a b c d with
    | false => rw [show (!false) = true from rfl, jt]; rfl
    | true =>
      simp only [sphragisref08_Within.j0]
      obtain ⟨r0, r1, r2, r3, r4, r5⟩ := rightB_iff.1 hr
      have s1 := sz_pos l
      have s2 := sz_le l r1
      rw [if_neg (by simp), ref_Size.eq x y l r0 r1]
      simp only [Option.bind_some]
      rw [wrap_u64 x hx (by omega), wrap_u64 y hy (by omega), wrap_u64 c hc (by omega), wrap_u64 d hd (by omega), wrap_u64 (x + sz l) (by omega) (by omega), wrap_u64 (y + sz l) (by omega) (by omega), wrap_u64 (x + sz l - 1) (by omega) (by omega), wrap_u64 (y + sz l - 1) (by omega) (by omega), four_chain]
      rfl

end Go.Proofs.Ytnpnmbfbdnbeoaa.P

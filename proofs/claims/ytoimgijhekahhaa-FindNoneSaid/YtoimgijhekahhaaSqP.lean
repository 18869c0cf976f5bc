/- The quarters of a cell part its points. Plain. -/
import Derived.Test.YtoimgijhekahhaaSqQ
namespace Go.Proofs.Ytoimgijhekahhaa.P
set_option linter.unusedVariables false
open Go.RowKit Go.Proofs.YtoimgijhekahhaaOwn Go.Proofs.YtoimgijhekahhaaW.PrintWords Go.Proofs.YtoimgijhekahhaaW.PrintLast Go.Proofs.YtoimgijhekahhaaW.PrintMore

theorem q_right {x y l : Int} (hx : 0 ≤ x) (hy : 0 ≤ y) (h : isQ x y l = true) (k : Nat) (hk : k ≤ 3) : rightB (qX x l k) (qY y l k) (l - 1) = true := by
  obtain ⟨b0, b1, b2, b3⟩ := qXY_bd hx hy h k hk
  obtain ⟨hr, hl⟩ := isQ_iff.1 h
  obtain ⟨r0, r1, r2, r3, r4, r5⟩ := rightB_iff.1 hr
  have s1 := sz_succ l (by omega)
  have d : sz (l - 1) ∣ sz l := ⟨2, by rw [s1, Int.mul_comm]⟩
  have d1 : sz (l - 1) ∣ x := Int.dvd_trans d (Int.dvd_of_emod_eq_zero r4)
  have d2 : sz (l - 1) ∣ y := Int.dvd_trans d (Int.dvd_of_emod_eq_zero r5)
  refine rightB_iff.2 ⟨by omega, by omega, b1, b3, ?_, ?_⟩
  · exact Int.emod_eq_zero_of_dvd (Int.dvd_add d1 ⟨_, rfl⟩)
  · exact Int.emod_eq_zero_of_dvd (Int.dvd_add d2 ⟨_, rfl⟩)
theorem q_has {x y l : Int} (hx : 0 ≤ x) (hy : 0 ≤ y) (h : isQ x y l = true) (k : Nat) (hk : k ≤ 3) (u v : Int) :
    hasB (qX x l k) (qY y l k) (l - 1) u v = true ↔ qX x l k ≤ u ∧ qY y l k ≤ v ∧ u < qX x l k + sz (l - 1) ∧ v < qY y l k + sz (l - 1) := by
  rw [hasB_iff]; simp only [q_right hx hy h k hk, true_and]
/-- A quarter has a point of the cell's alone; two quarters have none in common; each point of the cell's is one quarter's. -/
theorem q_parts {x y l : Int} (hx : 0 ≤ x) (hy : 0 ≤ y) (h : isQ x y l = true) (u v : Int) :
    (hasB x y l u v = true ↔ ∃ k, k ≤ 3 ∧ hasB (qX x l k) (qY y l k) (l - 1) u v = true) ∧
    ∀ j k, j ≤ 3 → k ≤ 3 → hasB (qX x l j) (qY y l j) (l - 1) u v = true → hasB (qX x l k) (qY y l k) (l - 1) u v = true → j = k := by
  obtain ⟨hr, hl⟩ := isQ_iff.1 h
  obtain ⟨r0, r1, r2, r3, r4, r5⟩ := rightB_iff.1 hr
  have s0 := sz_pos (l - 1)
  have s1 := sz_succ l (by omega)
  constructor
  · constructor
    · intro h1
      obtain ⟨_, g1, g2, g3, g4⟩ := hasB_iff.1 h1
      by_cases a : u < x + sz (l - 1)
      · by_cases b : v < y + sz (l - 1)
        · exact ⟨0, by omega, (q_has hx hy h 0 (by omega) u v).2 (by simp [qX, qY]; omega)⟩
        · exact ⟨2, by omega, (q_has hx hy h 2 (by omega) u v).2 (by simp [qX, qY]; omega)⟩
      · by_cases b : v < y + sz (l - 1)
        · exact ⟨1, by omega, (q_has hx hy h 1 (by omega) u v).2 (by simp [qX, qY]; omega)⟩
        · exact ⟨3, by omega, (q_has hx hy h 3 (by omega) u v).2 (by simp [qX, qY]; omega)⟩
    · rintro ⟨k, hk, h1⟩
      have g := (q_has hx hy h k hk u v).1 h1
      refine hasB_iff.2 ⟨hr, ?_⟩
      have : k = 0 ∨ k = 1 ∨ k = 2 ∨ k = 3 := by omega
      rcases this with rfl | rfl | rfl | rfl <;> simp [qX, qY] at g <;> omega
  · intro j k hj hk h1 h2
    have g1 := (q_has hx hy h j hj u v).1 h1
    have g2 := (q_has hx hy h k hk u v).1 h2
    have e1 : j = 0 ∨ j = 1 ∨ j = 2 ∨ j = 3 := by omega
    have e2 : k = 0 ∨ k = 1 ∨ k = 2 ∨ k = 3 := by omega
    rcases e1 with rfl | rfl | rfl | rfl <;> rcases e2 with rfl | rfl | rfl | rfl <;> simp [qX, qY] at g1 g2 <;> first | rfl | omega
/-- Where says k just where quarter k has the point. -/
theorem where_of {x y l : Int} (hx : 0 ≤ x) (hy : 0 ≤ y) (h : isQ x y l = true) {u v : Int} (k : Nat) (hk : k ≤ 3) (hh : hasB (qX x l k) (qY y l k) (l - 1) u v = true) : whereR x y l u v = ((k : Int), 0) := by
  have p := (q_parts hx hy h u v).2
  have no : ∀ j, j ≤ 3 → j ≠ k → hasB (qX x l j) (qY y l j) (l - 1) u v = false := fun j hj hne => by
    rw [Bool.eq_false_iff]; intro h'; exact hne (p j k hj hk h' hh)
  unfold whereR
  rw [if_pos h]
  have : k = 0 ∨ k = 1 ∨ k = 2 ∨ k = 3 := by omega
  rcases this with rfl | rfl | rfl | rfl
  · rw [if_pos hh]; rfl
  · rw [no 0 (by omega) (by omega), if_neg (by simp), if_pos hh]; rfl
  · rw [no 0 (by omega) (by omega), no 1 (by omega) (by omega), if_neg (by simp), if_neg (by simp), if_pos hh]; rfl
  · rw [no 0 (by omega) (by omega), no 1 (by omega) (by omega), no 2 (by omega) (by omega), if_neg (by simp), if_neg (by simp), if_neg (by simp), if_pos hh]; rfl
theorem where_ex {x y l : Int} (hx : 0 ≤ x) (hy : 0 ≤ y) (h : isQ x y l = true) {u v : Int} (hh : hasB x y l u v = true) : ∃ k : Nat, k ≤ 3 ∧ hasB (qX x l k) (qY y l k) (l - 1) u v = true ∧ whereR x y l u v = ((k : Int), 0) := by
  obtain ⟨k, hk, h1⟩ := (q_parts hx hy h u v).1.1 hh
  exact ⟨k, hk, h1, where_of hx hy h k hk h1⟩

end Go.Proofs.Ytoimgijhekahhaa.P

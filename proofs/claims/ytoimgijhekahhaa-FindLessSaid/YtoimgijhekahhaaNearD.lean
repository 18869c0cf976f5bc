/- Layer 9, quad: the nearest rows (quad.Near): what it comes to. -/
import Derived.Test.YtoimgijhekahhaaNearC
namespace Go.Proofs.Ytoimgijhekahhaa.P
open Go.RowKit Go.Proofs.YtoimgijhekahhaaOwn Go.Proofs.YtoimgijhekahhaaW.PrintWords Go.Proofs.YtoimgijhekahhaaW.PrintLast Go.Proofs.YtoimgijhekahhaaW.PrintMore
set_option linter.unusedVariables false
set_option linter.unusedSimpArgs false
attribute [local go_sem] max2_int min2_int max_two min_two
mutual
def goodNB (x y : Int) : S42 → Bool
  | ⟨c, rs, ks⟩ => ((rs ++ rowsL (fun _ => false) ks).all fun r => decide (dstC x y c ≤ dstR x y r)) && goodLB x y ks
def goodLB (x y : Int) : List S42 → Bool
  | [] => true
  | n :: l => goodNB x y n && goodLB x y l
end
mutual
theorem goodNB_iff (x y : Int) : ∀ (n : S42), goodNB x y n = true ↔ goodN x y n
  | ⟨c, rs, ks⟩ => by
    rw [goodNB, goodN, Bool.and_eq_true, goodLB_iff x y ks, List.all_eq_true]
    simp only [decide_eq_true_eq]
theorem goodLB_iff (x y : Int) : ∀ (l : List S42), goodLB x y l = true ↔ goodL x y l
  | [] => by simp [goodLB, goodL]
  | n :: l => by rw [goodLB, goodL, Bool.and_eq_true, goodNB_iff x y n, goodLB_iff x y l]
end
instance (x y : Int) (a b : S54) : Decidable (keyLt x y a b) := by unfold keyLt; infer_instance
/-- Rows by how far they are, then by ids. -/
def sortK (x y : Int) (l : List S54) : List S54 := l.mergeSort fun a b => decide (dstR x y a < dstR x y b ∨ (dstR x y a = dstR x y b ∧ a.f0 ≤ b.f0))
def okNear (x y : Int) (n : S42) : Bool := goodLB x y n.f2 && ((n.f1 ++ rowsL (fun _ => false) n.f2).all fun r => decide (0 ≤ dstR x y r)) && decide (wN n ≤ 100000) && decide ((sortK x y (rowsL (fun _ => false) [n])).Pairwise (keyLt x y))
def quad_Near.f (k : Nat) (a0_0 a0_1 a0_2 : Int) (l0_3 : List S54) (l0_4 : List S42) (a1 a2 a3 : Int) : Option (List S54 × Int) :=
  if mx a1 a2 ≥ 2147483648 ∨ a3 < 0 then some ([], 2) else if okNear a1 a2 ⟨⟨a0_0, a0_1, a0_2⟩, l0_3, l0_4⟩ = true then some ((sortK a1 a2 (rowsL (fun _ => false) [⟨⟨a0_0, a0_1, a0_2⟩, l0_3, l0_4⟩])).take a3.toNat, 0) else none
theorem quad_Near.mono : ∀ a0 a1 a2 a3 a4 b0 b1 b2 k, LeO (quad_Near.f k a0 a1 a2 a3 a4 b0 b1 b2) (quad_Near.f (k + 1) a0 a1 a2 a3 a4 b0 b1 b2) := fun _ _ _ _ _ _ _ _ _ => LeO.refl _
set_option maxRecDepth 100000 in
set_option maxHeartbeats 4000000 in
theorem near_bad (a0_0 a0_1 a0_2 : Int) (A0_3 : Option Addr) (c0_3 n3 : Nat) (A0_4 : Option Addr) (c0_4 n4 : Nat) (a1 a2 a3 : Int) (w : World) (h : mx a1 a2 ≥ 2147483648 ∨ a3 < 0) :
    Calls Try.prog 20 #[.agg #[.int .u32 a0_0, .int .u32 a0_1, .int .i64 a0_2, .slice A0_3 n3 c0_3, .slice A0_4 n4 c0_4], .int .u32 a1, .int .u32 a2, .int .i64 a3] w fun e w' => ∃ v0_ : Value, e = .returned (.tuple #[v0_, .int .i64 2]) ∧ Kd.R k54 54 w' w.heap.size (fun _ => True) v0_ [] ∧ Below w.heap.size w w' := by
  obtain ⟨m, hm⟩ : ∃ m, (if a1 < a2 then a2 else a1) = m := ⟨_, rfl⟩
  have hmx : mx a1 a2 = m := hm
  rw [hmx] at h
  by_cases h1 : 2147483648 ≤ m
  · have hmb : decide (2147483648 ≤ m) = true := decide_eq_true h1
    clear h hmx h1
    go_enter Try.func20, Try.ntmps20
    go_wp2_with fail
    refine wp_scope_straight ?_
    go_wp2_with fail
    try simp only [Exit.noGoto_ret]
    refine bodyPost_ret (v := .tuple #[.slice none 0 0, .int .i64 2]) (by simp [results, Try.results20, go_sem]) rfl ?_
    exact ⟨_, rfl, Kd.R_nil _ _ _ _ _, below_alloc' (Below.refl _ w) _⟩
  · have hmb : decide (2147483648 ≤ m) = false := decide_eq_false h1
    have h3b : decide (a3 < 0) = true := decide_eq_true (by omega)
    clear h hmx h1
    go_enter Try.func20, Try.ntmps20
    go_wp2_with fail
    refine wp_scope_straight ?_
    go_wp2_with fail
    try simp only [Exit.noGoto_ret]
    refine bodyPost_ret (v := .tuple #[.slice none 0 0, .int .i64 2]) (by simp [results, Try.results20, go_sem]) rfl ?_
    exact ⟨_, rfl, Kd.R_nil _ _ _ _ _, below_alloc' (Below.refl _ w) _⟩
theorem quad_Near.calls (k : Nat) (a0_0 a0_1 a0_2 : Int) (A0_3 : Option Addr) (c0_3 : Nat) (l0_3 : List S54) (A0_4 : Option Addr) (c0_4 : Nat) (l0_4 : List S42) (a1 a2 a3 : Int) (r1 : List S54) (r2 : Int) (w : World) (hr0_3 : Kd.C k54 w A0_3 l0_3.length l0_3) (hc0_3 : l0_3.length ≤ c0_3) (hr0_4 : Kd.C k42 w A0_4 l0_4.length l0_4) (hc0_4 : l0_4.length ≤ c0_4)
    (h : quad_Near.f k a0_0 a0_1 a0_2 l0_3 l0_4 a1 a2 a3 = some (r1, r2)) :
    Calls Try.prog 20 #[.agg #[.int .u32 a0_0, .int .u32 a0_1, .int .i64 a0_2, .slice A0_3 l0_3.length c0_3, .slice A0_4 l0_4.length c0_4], .int .u32 a1, .int .u32 a2, .int .i64 a3] w fun e w' => ∃ v0_ : Value, e = .returned (.tuple #[v0_, .int .i64 r2]) ∧ Kd.R k54 54 w' w.heap.size (fun _ => True) v0_ r1 ∧ Below w.heap.size w w' := by
  unfold quad_Near.f at h
  by_cases hb : mx a1 a2 ≥ 2147483648 ∨ a3 < 0
  · rw [if_pos hb] at h
    cases h
    exact near_bad a0_0 a0_1 a0_2 A0_3 c0_3 _ A0_4 c0_4 _ a1 a2 a3 w hb
  · rw [if_neg hb] at h
    by_cases ho : okNear a1 a2 ⟨⟨a0_0, a0_1, a0_2⟩, l0_3, l0_4⟩ = true
    · rw [if_pos ho] at h
      cases h
      unfold okNear at ho
      rw [Bool.and_eq_true, Bool.and_eq_true, Bool.and_eq_true] at ho
      obtain ⟨⟨⟨h1, h2⟩, h3⟩, h4⟩ := ho
      have hm1 : a1 < 2147483648 ∧ a2 < 2147483648 := by
        have : ¬ mx a1 a2 ≥ 2147483648 := fun e => hb (.inl e)
        unfold mx at this
        split at this <;> omega
      exact near_go a0_0 a0_1 a0_2 A0_3 c0_3 l0_3 A0_4 c0_4 l0_4 a1 a2 a3 w hr0_3 hc0_3 hr0_4 hc0_4 hm1.1 hm1.2 (by omega) _ (of_decide_eq_true h4) (List.mergeSort_perm _ _).symm ((goodLB_iff a1 a2 _).1 h1) (fun r hr => of_decide_eq_true (List.all_eq_true.1 h2 r hr)) (of_decide_eq_true h3)
    · rw [if_neg ho] at h; cases h
end Go.Proofs.Ytoimgijhekahhaa.P

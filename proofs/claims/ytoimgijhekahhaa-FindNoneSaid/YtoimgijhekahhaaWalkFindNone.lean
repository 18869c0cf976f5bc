/- Layer 11: the law FindNone, walked. -/
import Derived.Test.YtoimgijhekahhaaFindV
namespace Go.Proofs.Ytoimgijhekahhaa.P
open Go.RowKit Go.Proofs.YtoimgijhekahhaaOwn Go.Proofs.YtoimgijhekahhaaW.PrintWords Go.Proofs.YtoimgijhekahhaaW.PrintLast Go.Proofs.YtoimgijhekahhaaW.PrintMore
set_option linter.unusedVariables false
set_option linter.unusedSimpArgs false
attribute [local go_sem] max2_int max_two min_two
set_option maxRecDepth 100000 in
set_option maxHeartbeats 8000000 in
theorem sphragislaw11_FindNone.calls (k : Nat) (q : Q11) (most : Int) (r : Bool) (w : World) (h : r = true ∧ 128 ≤ k ∧ wfQ q ∧ -9223372036854775808 ≤ most ∧ AskF k [] q = some ([], false, checkP q) ∧ ∃ f, allQ [] q (mn most 100) = ([], f) ∧ (f = checkP q ∨ f = 2)) :
    Calls Try.prog 8 #[.agg (encQ q), .int .i64 most] w fun e w' => e = .returned (.bool r) ∧ Below w.heap.size w w' := by
  obtain ⟨rfl, hk, wq, hmo, hA, f, hQ, hf⟩ := h
  obtain ⟨mm, hmm⟩ : ∃ mm, mn most 100 = mm := ⟨_, rfl⟩
  rw [hmm] at hQ
  have hm2 : -9223372036854775808 ≤ mm ∧ mm ≤ 100 := by rw [← hmm]; unfold mn; split <;> omega
  have hmin : Builtin.min2 (.int .i64 most) (.int .i64 100) = pure (.int .i64 mm) := by
    rw [min2_int]
    exact congrArg (fun x => (pure (Value.int .i64 x) : Sem Value)) hmm
  obtain ⟨cq, hcq⟩ : ∃ cq, checkP q = cq := ⟨_, rfl⟩
  rw [hcq] at hA hf
  have HA := Aside0.mk hA
  have HQ := Aside0.mk hQ
  have HF := Aside0.mk hf
  have HM2 := Aside0.mk hm2
  have HCQ := Aside0.mk hcq
  clear hA hQ hf hm2 hmm hcq
  have X0 := Aside0.mk (boxc_new w #[.int .i64 q.kind, .int .u32 q.b0, .int .u32 q.b1, .int .u32 q.b2, .int .u32 q.b3, .int .u32 q.x, .int .u32 q.y, .int .u64 q.sq, .int .i64 q.k, .int .u64 q.after, .bool q.from_] 27)
  have B0 := Aside0.mk (below_alloc' (Below.refl _ w) (.cells #[.int .i64 q.kind, .int .u32 q.b0, .int .u32 q.b1, .int .u32 q.b2, .int .u32 q.b3, .int .u32 q.x, .int .u32 q.y, .int .u64 q.sq, .int .i64 q.k, .int .u64 q.after, .bool q.from_] 27))
  unfold encQ
  go_enter Try.func8, Try.ntmps8
  go_wp2_with fail
  refine (shown_ok _).mono ?_
  rintro e w1 ⟨rfl, hb1⟩
  have B1 := Aside0.mk (below_call B0.out hb1)
  have X1 := Aside0.mk (boxc_below X0.out hb1)
  clear B0 X0 hb1
  have x0 := boxc_cell X1.out 0
  have x1 := boxc_cell X1.out 1
  have x2 := boxc_cell X1.out 2
  have x3 := boxc_cell X1.out 3
  have x4 := boxc_cell X1.out 4
  have x5 := boxc_cell X1.out 5
  have x6 := boxc_cell X1.out 6
  have x7 := boxc_cell X1.out 7
  have x8 := boxc_cell X1.out 8
  have x9 := boxc_cell X1.out 9
  have x10 := boxc_cell X1.out 10
  go_wp2_with fail
  refine (Ask_calls k q none 0 [] [] false cq _ (Kd.C_nil _ _) (Nat.le_refl _) HA.out).mono ?_
  rintro e w2 ⟨v2, rfl, hR2, hb2⟩
  obtain ⟨A2, c2, rfl⟩ := Kd.R_slice hR2
  have B2 := Aside0.mk (below_call B1.out hb2)
  have X2 := Aside0.mk (boxc_below X1.out hb2)
  clear B1 X1 hb2 hR2 x0 x1 x2 x3 x4 x5 x6 x7 x8 x9 x10
  have x0 := boxc_cell X2.out 0
  have x1 := boxc_cell X2.out 1
  have x2 := boxc_cell X2.out 2
  have x3 := boxc_cell X2.out 3
  have x4 := boxc_cell X2.out 4
  have x5 := boxc_cell X2.out 5
  have x6 := boxc_cell X2.out 6
  have x7 := boxc_cell X2.out 7
  have x8 := boxc_cell X2.out 8
  have x9 := boxc_cell X2.out 9
  have x10 := boxc_cell X2.out 10
  go_wp2_with fail
  refine (All_calls k hk none 0 [] (by simp) (by decide) q wq mm HM2.out _ (Kd.C_nil _ _) (Nat.le_refl _)).mono ?_
  rintro e w3 ⟨v3, rfl, hR3, hb3⟩
  rw [HQ.out] at hR3 ⊢
  obtain ⟨A3, c3, rfl⟩ := Kd.R_slice hR3
  have B3 := Aside0.mk (below_call B2.out hb3)
  have X3 := Aside0.mk (boxc_below X2.out hb3)
  clear B2 X2 hb3 hR3 x0 x1 x2 x3 x4 x5 x6 x7 x8 x9 x10
  have x0 := boxc_cell X3.out 0
  have x1 := boxc_cell X3.out 1
  have x2 := boxc_cell X3.out 2
  have x3 := boxc_cell X3.out 3
  have x4 := boxc_cell X3.out 4
  have x5 := boxc_cell X3.out 5
  have x6 := boxc_cell X3.out 6
  have x7 := boxc_cell X3.out 7
  have x8 := boxc_cell X3.out 8
  have x9 := boxc_cell X3.out 9
  have x10 := boxc_cell X3.out 10
  go_wp2_with fail
  refine (check_calls q _).mono ?_
  rintro e w4 ⟨rfl, hb4⟩
  have B4 := Aside0.mk (below_call B3.out hb4)
  have hcq := HCQ.out
  clear B3 X3 hb4 x0 x1 x2 x3 x4 x5 x6 x7 x8 x9 x10
  by_cases hfe : f = cq
  · have e1 : (f == cq) = true := beq_iff_eq.2 hfe
    clear hfe
    go_wp2
    go_ret
    exact ⟨by simp, B4.out⟩
  · have e1 : (f == cq) = false := beq_eq_false_iff_ne.2 hfe
    have e2 : (f == 2) = true := beq_iff_eq.2 (HF.out.resolve_left hfe)
    clear hfe
    go_wp2
    go_ret
    exact ⟨by simp, B4.out⟩
end Go.Proofs.Ytoimgijhekahhaa.P

/- Layer 11: the law FindChecks, walked. -/
import Derived.Test.YtoimgijhekahhaaShP
import Derived.Test.YtoimgijhekahhaaPx10
namespace Go.Proofs.Ytoimgijhekahhaa.P
open Go.RowKit Go.Proofs.YtoimgijhekahhaaOwn Go.Proofs.YtoimgijhekahhaaW.PrintWords Go.Proofs.YtoimgijhekahhaaW.PrintLast Go.Proofs.YtoimgijhekahhaaW.PrintMore
set_option linter.unusedVariables false
set_option linter.unusedSimpArgs false
def checks_T2 : Bool × List (List Nat × List Nat) := (true, [([], []), ([0], [0]), ([1], [1]), ([2, 1, 1], [1, 2]), ([1], [1]), ([4, 3, 1], [1, 4]), ([3, 5, 1], [1, 3, 5]), ([1, 6], [1, 6]), ([7, 5, 0, 1, 2, 3, 4, 5, 6, 7], [7])])
def checks_B2 : List Nat := [0, 1, 3, 7, 3, 31, 63, 127, 255]
theorem checks_tab2 : rtab .any (opsOf Try.f3 2) = checks_T2 := by kernel_rfl
theorem checks_bits2 : waitsOk checks_T2.2 checks_B2 = true := by kernel_rfl
def sphragislaw11_FindChecks.f (k : Nat) (q : Q11) : Option Bool :=
  (sphragisref11_Check.f k q.kind q.b0 q.b1 q.b2 q.b3 q.x q.y q.sq q.k q.after q.from_).bind fun c => if checkP q = c then some true else none
set_option maxRecDepth 100000 in
set_option maxHeartbeats 8000000 in
theorem sphragislaw11_FindChecks.calls (k : Nat) (q : Q11) (r : Bool) (w : World) (h : sphragislaw11_FindChecks.f k q = some r) :
    Calls Try.prog 3 #[.agg (encQ q)] w fun e w' => e = .returned (.bool r) ∧ Below w.heap.size w w' := by
  unfold sphragislaw11_FindChecks.f at h
  obtain ⟨cc, hc, h1⟩ := Option.bind_eq_some_iff.1 h
  clear h
  by_cases hmm : checkP q = cc
  case neg => rw [if_neg hmm] at h1; cases h1
  rw [if_pos hmm] at h1
  cases h1
  have HC := Aside0.mk hc
  have HM := Aside0.mk hmm
  clear hc hmm
  have X0 := Aside0.mk (boxc_new w #[.int .i64 q.kind, .int .u32 q.b0, .int .u32 q.b1, .int .u32 q.b2, .int .u32 q.b3, .int .u32 q.x, .int .u32 q.y, .int .u64 q.sq, .int .i64 q.k, .int .u64 q.after, .bool q.from_] 27)
  have B0 := Aside0.mk (below_alloc' (Below.refl _ w) (.cells #[.int .i64 q.kind, .int .u32 q.b0, .int .u32 q.b1, .int .u32 q.b2, .int .u32 q.b3, .int .u32 q.x, .int .u32 q.y, .int .u64 q.sq, .int .i64 q.k, .int .u64 q.after, .bool q.from_] 27))
  unfold encQ
  go_enter Try.func3, Try.ntmps3
  go_wp2_with fail
  refine (shown_ok _).mono ?_
  rintro e w1 ⟨rfl, hb1⟩
  have hB := Aside0.mk (below_drew1 (below_call B0.out hb1))
  have hX := Aside0.mk (blk_drew (boxc_below X0.out hb1))
  clear B0 X0 hb1
  go_wp2_with fail
  refine start_ (n := 9) (S := fun w' => w'.cell? ⟨w.heap.size, 0, none⟩ = some (.int .i64 q.kind) ∧ w'.cell? ⟨w.heap.size, 1, none⟩ = some (.int .u32 q.b0) ∧ w'.cell? ⟨w.heap.size, 2, none⟩ = some (.int .u32 q.b1) ∧ w'.cell? ⟨w.heap.size, 3, none⟩ = some (.int .u32 q.b2) ∧ w'.cell? ⟨w.heap.size, 4, none⟩ = some (.int .u32 q.b3) ∧ w'.cell? ⟨w.heap.size, 5, none⟩ = some (.int .u32 q.x) ∧ w'.cell? ⟨w.heap.size, 6, none⟩ = some (.int .u32 q.y) ∧ w'.cell? ⟨w.heap.size, 7, none⟩ = some (.int .u64 q.sq) ∧ w'.cell? ⟨w.heap.size, 8, none⟩ = some (.int .i64 q.k) ∧ w'.cell? ⟨w.heap.size, 9, none⟩ = some (.int .u64 q.after) ∧ w'.cell? ⟨w.heap.size, 10, none⟩ = some (.bool q.from_)) (ds := []) #[false, false, false, false, false, false, false, false, false] (by kernel_rfl) rfl rfl ⟨(blk_cell hX.out 0).trans rfl, (blk_cell hX.out 1).trans rfl, (blk_cell hX.out 2).trans rfl, (blk_cell hX.out 3).trans rfl, (blk_cell hX.out 4).trans rfl, (blk_cell hX.out 5).trans rfl, (blk_cell hX.out 6).trans rfl, (blk_cell hX.out 7).trans rfl, (blk_cell hX.out 8).trans rfl, (blk_cell hX.out 9).trans rfl, (blk_cell hX.out 10).trans rfl⟩ (fun hHeld => ?_); refine with_tabW checks_tab2 checks_bits2 (fun HT_ HW_ => ?_)
  refine pure_ (i := 0) (N := some 5) (v := ?_) (a' := ?_) #[true, false, false, false, false, false, false, false, false] rfl rfl (any_of HT_.out (by kernel_rfl)) (fun _ _ _ h => h) (Or.inl ⟨by rfl, ?_⟩) ?_ ?_
  rotate_left
  · intro w'
    go_simp
    with_reducible rfl
  rotate_left
  · simp only [Act.put, List.setIfInBounds_toArray, List.set_cons_zero, List.set_cons_succ, i64_w, i32_w]
    rfl
  refine pure_ (i := 1) (N := some 6) (v := ?_) (a' := ?_) #[true, true, false, false, false, false, false, false, false] rfl rfl (any_of HT_.out (by kernel_rfl)) (fun _ _ _ h => h) (Or.inl ⟨by rfl, ?_⟩) ?_ ?_
  rotate_left
  · intro w'
    go_simp
    with_reducible rfl
  rotate_left
  · simp only [Act.put, List.setIfInBounds_toArray, List.set_cons_zero, List.set_cons_succ, i64_w, i32_w]
    rfl
  refine take_ (i := 2) (N := some 7) (v := ?_) (a' := ?_) #[true, true, true, false, false, false, false, false, false] rfl rfl (take_ofW HT_.out HW_.out (by kernel_rfl)) (fun _ _ _ h => h) (Or.inl ⟨by rfl, ?_⟩) hHeld ?_ ?_
  rotate_left
  · rintro w' ⟨s0, s1, s2, s3, s4, s5, s6, s7, s8, s9, s10⟩
    go_simp
    with_reducible rfl
  rotate_left
  · simp only [Act.put, List.setIfInBounds_toArray, List.set_cons_zero, List.set_cons_succ, i64_w, i32_w]
    rfl
  refine take_ (i := 4) (N := some 9) (v := ?_) (a' := ?_) #[true, true, true, false, true, false, false, false, false] rfl rfl (take_ofW HT_.out HW_.out (by kernel_rfl)) (fun _ _ _ h => h) (Or.inl ⟨by rfl, ?_⟩) hHeld ?_ ?_
  rotate_left
  · rintro w' ⟨s0, s1, s2, s3, s4, s5, s6, s7, s8, s9, s10⟩
    go_simp
    with_reducible rfl
  rotate_left
  · simp only [Act.put, List.setIfInBounds_toArray, List.set_cons_zero, List.set_cons_succ, i64_w, i32_w]
    rfl
  refine one_ (i := 3) (N := some 8) #[true, true, true, true, true, false, false, false, false] rfl rfl (one_of HT_.out (by kernel_rfl)) (by decide) (fun K hK => ?_)
  refine goes_ Try.func10 (by kernel_rfl) rfl #[.agg #[.int .i64 q.kind, .int .u32 q.b0, .int .u32 q.b1, .int .u32 q.b2, .int .u32 q.b3, .int .u32 q.x, .int .u32 q.y, .int .u64 q.sq, .int .i64 q.k, .int .u64 q.after, .bool q.from_]] (by rfl) rfl rfl (by simp [Act.eval]) ?_
  refine (check_calls q _).mono ?_
  rintro e w3 ⟨rfl, hb3⟩
  refine ⟨_, rfl, ?_⟩
  have n1_ := Aside0.mk (below_call hB.out hb3)
  have n2_ := Aside0.mk (boxc_below hX.out hb3)
  clear hB hX hb3
  have hB := n1_
  have hX := n2_
  clear n1_ n2_
  refine hK.out _ _ ⟨(blk_cell hX.out 0).trans rfl, (blk_cell hX.out 1).trans rfl, (blk_cell hX.out 2).trans rfl, (blk_cell hX.out 3).trans rfl, (blk_cell hX.out 4).trans rfl, (blk_cell hX.out 5).trans rfl, (blk_cell hX.out 6).trans rfl, (blk_cell hX.out 7).trans rfl, (blk_cell hX.out 8).trans rfl, (blk_cell hX.out 9).trans rfl, (blk_cell hX.out 10).trans rfl⟩ (fun hHeld => ?_)
  clear hK K
  refine norm_ (a' := ?_) ?_ ?_
  rotate_left
  · show Act.put _ (some 8) _ = _
    simp only [Act.put, List.setIfInBounds_toArray, List.set_cons_zero, List.set_cons_succ, i64_w, i32_w]
    rfl
  refine one_ (i := 5) (N := some 10) #[true, true, true, true, true, true, false, false, false] rfl rfl (one_of HT_.out (by kernel_rfl)) (by decide) (fun K hK => ?_)
  refine goes_ Try.func11 (by kernel_rfl) rfl #[.agg #[.int .i64 q.kind, .int .u32 q.b0, .int .u32 q.b1, .int .u32 q.b2, .int .u32 q.b3, .int .u32 q.x, .int .u32 q.y, .int .u64 q.sq, .int .i64 q.k, .int .u64 q.after, .bool q.from_]] (by rfl) rfl rfl (by simp [Act.eval]) ?_
  refine (sphragisref11_Check.calls k q.kind q.b0 q.b1 q.b2 q.b3 q.x q.y q.sq q.k q.after q.from_ cc _ HC.out).mono ?_
  rintro e w4 ⟨rfl, hb3⟩
  refine ⟨_, rfl, ?_⟩
  have n1_ := Aside0.mk (below_call hB.out hb3)
  have n2_ := Aside0.mk (boxc_below hX.out hb3)
  clear hB hX hb3
  have hB := n1_
  have hX := n2_
  clear n1_ n2_
  refine hK.out _ _ ⟨(blk_cell hX.out 0).trans rfl, (blk_cell hX.out 1).trans rfl, (blk_cell hX.out 2).trans rfl, (blk_cell hX.out 3).trans rfl, (blk_cell hX.out 4).trans rfl, (blk_cell hX.out 5).trans rfl, (blk_cell hX.out 6).trans rfl, (blk_cell hX.out 7).trans rfl, (blk_cell hX.out 8).trans rfl, (blk_cell hX.out 9).trans rfl, (blk_cell hX.out 10).trans rfl⟩ (fun hHeld => ?_)
  clear hK K
  refine norm_ (a' := ?_) ?_ ?_
  rotate_left
  · show Act.put _ (some 10) _ = _
    simp only [Act.put, List.setIfInBounds_toArray, List.set_cons_zero, List.set_cons_succ, i64_w, i32_w]
    rfl
  refine pure_ (i := 6) (N := some 11) (v := ?_) (a' := ?_) #[true, true, true, true, true, true, true, false, false] rfl rfl (any_of HT_.out (by kernel_rfl)) (fun _ _ _ h => h) (Or.inl ⟨by rfl, ?_⟩) ?_ ?_
  rotate_left
  · intro w'
    go_simp
    with_reducible rfl
  rotate_left
  · simp only [Act.put, List.setIfInBounds_toArray, List.set_cons_zero, List.set_cons_succ, i64_w, i32_w]
    rfl
  refine pure_ (i := 7) (N := some 12) (v := ?_) (a' := ?_) #[true, true, true, true, true, true, true, true, false] rfl rfl (any_of HT_.out (by kernel_rfl)) (fun _ _ _ h => h) (Or.inl ⟨by rfl, ?_⟩) ?_ ?_
  rotate_left
  · intro w'
    go_simp
    with_reducible rfl
  rotate_left
  · simp only [Act.put, List.setIfInBounds_toArray, List.set_cons_zero, List.set_cons_succ, i64_w, i32_w]
    rfl
  refine pure_ (i := 8) (N := some 2) (v := ?_) (a' := ?_) #[true, true, true, true, true, true, true, true, true] rfl rfl (any_of HT_.out (by kernel_rfl)) (fun _ _ _ h => h) (Or.inl ⟨by rfl, ?_⟩) ?_ ?_
  rotate_left
  · intro w'
    go_simp
    with_reducible rfl
  rotate_left
  · simp only [Act.put, List.setIfInBounds_toArray, List.set_cons_zero, List.set_cons_succ, i64_w, i32_w]
    rfl
  refine done_ (done_of HT_.out (by kernel_rfl)) ?_
  clear HT_ HW_ hHeld

  have he := HM.out
  go_wp2_with fail
  go_ret
  exact ⟨by simp [he], hB.out⟩
end Go.Proofs.Ytoimgijhekahhaa.P

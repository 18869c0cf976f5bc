/- Layer 11: the law FindAsks, walked. -/
import Derived.Test.YtoimgijhekahhaaFindX
import Derived.Test.YtoimgijhekahhaaStep
import Derived.Test.YtoimgijhekahhaaShP
import Derived.Test.YtoimgijhekahhaaPx903
namespace Go.Proofs.Ytoimgijhekahhaa.P
open Go.RowKit Go.Proofs.YtoimgijhekahhaaOwn Go.Proofs.YtoimgijhekahhaaW.PrintWords Go.Proofs.YtoimgijhekahhaaW.PrintLast Go.Proofs.YtoimgijhekahhaaW.PrintMore
set_option linter.unusedVariables false
set_option linter.unusedSimpArgs false
def asks_T2 : Bool × List (List Nat × List Nat) := (true, [([], []), ([0], [0]), ([], []), ([1, 2, 1], [1, 2]), ([3], [3]), ([4], [4]), ([4], [4]), ([4], [4]), ([5, 3, 0, 1, 2, 3, 4, 5], [5]), ([6, 8, 0, 1, 2, 3, 4, 5, 6, 8], [6]), ([7, 9, 0, 1, 2, 3, 4, 5, 6, 7, 8, 9], [7])])
def asks_B2 : List Nat := [0, 1, 0, 7, 15, 31, 31, 31, 63, 383, 1023]
theorem asks_tab2 : rtab .any (opsOf Try.f4 2) = asks_T2 := by kernel_rfl
theorem asks_tab3 : rtab .any (opsOf Try.f4 3) = asks_T2 := by kernel_rfl
theorem asks_bits2 : waitsOk asks_T2.2 asks_B2 = true := by kernel_rfl
theorem ask_len {l : List Row} {q : Q11} (wq : wfQ q) (hl : l.length ≤ 60) : (askP l q).1.length ≤ 60 := by
 by_cases hr : rightL l = true
 ·by_cases hc : checkP q = 0
  ·rw [ask_good hr wq hc]
   have hf := full_len (l := l) (q := q)
   show ((fullP l q).take q.k.toNat).length ≤ 60
   rw [List.length_take]
   omega
  ·unfold askP
   rw [if_pos hr, if_neg hc]
   exact Nat.zero_le _
 ·unfold askP
  rw [if_neg hr]
  exact Nat.zero_le _
set_option maxRecDepth 100000 in
set_option maxHeartbeats 8000000 in
theorem sphragislaw11_FindAsks.calls (k : Nat) (A0 : Option Addr) (c0 : Nat) (l0 : List S54) (q : Q11) (r : Bool) (w : World) (hr0 : Kd.C k54 w A0 l0.length l0) (hc0 : l0.length ≤ c0) (h : r = true ∧ 4096 ≤ k ∧ (∀ s ∈ l0.take 60, wfRow s) ∧ wfQ q) :
  Calls Try.prog 4 #[.slice A0 l0.length c0, .agg (encQ q)] w fun e w' => e = .returned (.bool r) ∧ Below w.heap.size w w' := by
 obtain ⟨rfl, hk, wl, wq⟩ := h
 obtain ⟨l, hl⟩ : ∃ l, l0.take 60 = l := ⟨_, rfl⟩
 rw [hl] at wl
 have hl60 : l.length ≤ 60 := by rw [← hl]; exact few_len l0
 have hll : l.length ≤ l0.length := by rw [← hl, List.length_take]; omega
 have HN := Aside0.mk (show (l0.take 60).length = l.length ∧ l.length ≤ c0 ∧ l.length ≤ 60 ∧ ∀ W, Below w.heap.size w W → Kd.C k54 W A0 l.length l from ⟨by rw [hl], Nat.le_trans hll hc0, hl60, fun W hb => by
  have := Kd.C_take (m := l.length) (Kd.C_below hr0 hb) hll
  rw [show l0.take l.length = l by rw [← hl, List.length_take]; simp] at this
  exact this⟩)
 have HWL := Aside0.mk wl
 obtain ⟨a, x, er, has⟩ : ∃ a x er, askP l q = (a, x, er) := ⟨_, _, _, rfl⟩
 have HAF := Aside0.mk (show AskF k l q = some (a, x, er) by rw [AskF_eq wl hl60 (by omega) wq, has])
 have HAS := Aside0.mk has
 have HSA := Aside0.mk (show sphragisref09_Same.f k a a = some true from same_eq (by have h1 : (askP l q).1.length ≤ 60 := ask_len wq hl60; rw [has] at h1; exact Nat.le_trans h1 (by decide)) (by have h1 : (askP l q).1.length ≤ 60 := ask_len wq hl60; rw [has] at h1; exact Nat.lt_of_le_of_lt h1 (by omega)))
 clear wl hl hl60 hll has hr0
 have X0 := Aside0.mk (boxc_new w #[.int .i64 q.kind, .int .u32 q.b0, .int .u32 q.b1, .int .u32 q.b2, .int .u32 q.b3, .int .u32 q.x, .int .u32 q.y, .int .u64 q.sq, .int .i64 q.k, .int .u64 q.after, .bool q.from_] 27)
 have B0 := Aside0.mk (below_alloc' (Below.refl _ w) (.cells #[.int .i64 q.kind, .int .u32 q.b0, .int .u32 q.b1, .int .u32 q.b2, .int .u32 q.b3, .int .u32 q.x, .int .u32 q.y, .int .u64 q.sq, .int .i64 q.k, .int .u64 q.after, .bool q.from_] 27))
 unfold encQ
 go_enter Try.func4, Try.ntmps4
 go_wp2_with fail
 refine (shown_ok _).mono ?_
 rintro e w1 ⟨rfl, hb1⟩
 have hB := Aside0.mk (below_drew1 (below_call B0.out hb1))
 have hX := Aside0.mk (blk_drew (boxc_below X0.out hb1))
 clear B0 X0 hb1
 go_wp2_with fail
 refine start_ (n := 11) (S := fun w' => w'.cell? ⟨w.heap.size, 0, none⟩ = some (.int .i64 q.kind) ∧ w'.cell? ⟨w.heap.size, 1, none⟩ = some (.int .u32 q.b0) ∧ w'.cell? ⟨w.heap.size, 2, none⟩ = some (.int .u32 q.b1) ∧ w'.cell? ⟨w.heap.size, 3, none⟩ = some (.int .u32 q.b2) ∧ w'.cell? ⟨w.heap.size, 4, none⟩ = some (.int .u32 q.b3) ∧ w'.cell? ⟨w.heap.size, 5, none⟩ = some (.int .u32 q.x) ∧ w'.cell? ⟨w.heap.size, 6, none⟩ = some (.int .u32 q.y) ∧ w'.cell? ⟨w.heap.size, 7, none⟩ = some (.int .u64 q.sq) ∧ w'.cell? ⟨w.heap.size, 8, none⟩ = some (.int .i64 q.k) ∧ w'.cell? ⟨w.heap.size, 9, none⟩ = some (.int .u64 q.after) ∧ w'.cell? ⟨w.heap.size, 10, none⟩ = some (.bool q.from_)) (ds := []) #[false, false, false, false, false, false, false, false, false, false, false] (by kernel_rfl) rfl rfl ⟨(blk_cell hX.out 0).trans rfl, (blk_cell hX.out 1).trans rfl, (blk_cell hX.out 2).trans rfl, (blk_cell hX.out 3).trans rfl, (blk_cell hX.out 4).trans rfl, (blk_cell hX.out 5).trans rfl, (blk_cell hX.out 6).trans rfl, (blk_cell hX.out 7).trans rfl, (blk_cell hX.out 8).trans rfl, (blk_cell hX.out 9).trans rfl, (blk_cell hX.out 10).trans rfl⟩ (fun hHeld => ?_); refine with_tabW asks_tab2 asks_bits2 (fun HT_ HW_ => ?_)
 refine pA 0 HT_ ?_
 refine tA 2 HT_ HW_ ?_
 refine one_ (i := 1) (N := some 15) #[true, true, true, false, false, false, false, false, false, false, false] rfl rfl (one_of HT_.out (by kernel_rfl)) (by decide) (fun K hK => ?_)
 refine goes_ Try.func13 (by kernel_rfl) rfl #[.slice A0 l0.length c0] (by rfl) rfl rfl (by simp [Act.eval]) ?_
 refine (few_A A0 c0 l0 _ hc0).mono ?_
 rintro e w3 ⟨rfl, hb3⟩
 refine ⟨_, rfl, ?_⟩
 rw [HN.out.1]
 have n1_ := Aside0.mk (below_call hB.out hb3)
 have n2_ := Aside0.mk (boxc_below hX.out hb3)
 clear hB hX hb3
 have hB := n1_
 have hX := n2_
 clear n1_ n2_
 refine hK.out _ _ ⟨(blk_cell hX.out 0).trans rfl, (blk_cell hX.out 1).trans rfl, (blk_cell hX.out 2).trans rfl, (blk_cell hX.out 3).trans rfl, (blk_cell hX.out 4).trans rfl, (blk_cell hX.out 5).trans rfl, (blk_cell hX.out 6).trans rfl, (blk_cell hX.out 7).trans rfl, (blk_cell hX.out 8).trans rfl, (blk_cell hX.out 9).trans rfl, (blk_cell hX.out 10).trans rfl⟩ (fun hHeld => ?_)
 clear hK K
 refine norm_ (a' := ?_) ?_ ?_
 rotate_left
 ·show Act.put _ (some 15) _ = _
  simp only [Act.put, List.setIfInBounds_toArray, List.set_cons_zero, List.set_cons_succ, i64_w, i32_w]
  rfl
 refine one_ (i := 3) (N := some 17) #[true, true, true, true, false, false, false, false, false, false, false] rfl rfl (one_of HT_.out (by kernel_rfl)) (by decide) (fun K hK => ?_)
 refine goes_ Try.func12 (by kernel_rfl) rfl #[.slice A0 l.length c0, .agg #[.int .i64 q.kind, .int .u32 q.b0, .int .u32 q.b1, .int .u32 q.b2, .int .u32 q.b3, .int .u32 q.x, .int .u32 q.y, .int .u64 q.sq, .int .i64 q.k, .int .u64 q.after, .bool q.from_]] (by rfl) rfl rfl (by simp [Act.eval]) ?_
 refine (Ask_calls k q A0 c0 l a x er _ (HN.out.2.2.2 _ hB.out) HN.out.2.1 HAF.out).mono ?_
 rintro e w4 ⟨v4, rfl, hR3, hb3⟩
 obtain ⟨A3, c3, rfl⟩ := Kd.R_slice hR3
 refine ⟨_, rfl, ?_⟩
 have RA := Aside0.mk (Kd.R_reads' hR3)
 have n1_ := Aside0.mk (below_call hB.out hb3)
 have n2_ := Aside0.mk (boxc_below hX.out hb3)
 clear hR3
 clear hB hX hb3
 have hB := n1_
 have hX := n2_
 clear n1_ n2_
 refine hK.out _ _ ⟨(blk_cell hX.out 0).trans rfl, (blk_cell hX.out 1).trans rfl, (blk_cell hX.out 2).trans rfl, (blk_cell hX.out 3).trans rfl, (blk_cell hX.out 4).trans rfl, (blk_cell hX.out 5).trans rfl, (blk_cell hX.out 6).trans rfl, (blk_cell hX.out 7).trans rfl, (blk_cell hX.out 8).trans rfl, (blk_cell hX.out 9).trans rfl, (blk_cell hX.out 10).trans rfl⟩ (fun hHeld => ?_)
 clear hK K
 refine norm_ (a' := ?_) ?_ ?_
 rotate_left
 ·show Act.put _ (some 17) _ = _
  simp only [Act.put, List.setIfInBounds_toArray, List.set_cons_zero, List.set_cons_succ, i64_w, i32_w]
  rfl
 refine pA 4 HT_ ?_
 refine pA 5 HT_ ?_
 refine pA 6 HT_ ?_
 refine pA 7 HT_ ?_
 refine pA 8 HT_ ?_
 refine pA 9 HT_ ?_
 refine pA 10 HT_ ?_
 refine done_ (done_of HT_.out (by kernel_rfl)) ?_
 clear HT_ HW_ hHeld

 go_wp2_with fail
 have n1_ := Aside0.mk (below_drew1 hB.out)
 have n2_ := Aside0.mk (blk_drew hX.out)
 have n3_ := Aside0.mk (And.intro trivial (And.intro RA.out.2.1 (Kd.C_drew RA.out.2.2)))
 clear hB hX RA
 have hB := n1_
 have hX := n2_
 have RA := n3_
 clear n1_ n2_ n3_
 refine start_ (n := 11) (S := fun w' => w'.cell? ⟨w.heap.size, 0, none⟩ = some (.int .i64 q.kind) ∧ w'.cell? ⟨w.heap.size, 1, none⟩ = some (.int .u32 q.b0) ∧ w'.cell? ⟨w.heap.size, 2, none⟩ = some (.int .u32 q.b1) ∧ w'.cell? ⟨w.heap.size, 3, none⟩ = some (.int .u32 q.b2) ∧ w'.cell? ⟨w.heap.size, 4, none⟩ = some (.int .u32 q.b3) ∧ w'.cell? ⟨w.heap.size, 5, none⟩ = some (.int .u32 q.x) ∧ w'.cell? ⟨w.heap.size, 6, none⟩ = some (.int .u32 q.y) ∧ w'.cell? ⟨w.heap.size, 7, none⟩ = some (.int .u64 q.sq) ∧ w'.cell? ⟨w.heap.size, 8, none⟩ = some (.int .i64 q.k) ∧ w'.cell? ⟨w.heap.size, 9, none⟩ = some (.int .u64 q.after) ∧ w'.cell? ⟨w.heap.size, 10, none⟩ = some (.bool q.from_)) (ds := []) #[false, false, false, false, false, false, false, false, false, false, false] (by kernel_rfl) rfl rfl ⟨(blk_cell hX.out 0).trans rfl, (blk_cell hX.out 1).trans rfl, (blk_cell hX.out 2).trans rfl, (blk_cell hX.out 3).trans rfl, (blk_cell hX.out 4).trans rfl, (blk_cell hX.out 5).trans rfl, (blk_cell hX.out 6).trans rfl, (blk_cell hX.out 7).trans rfl, (blk_cell hX.out 8).trans rfl, (blk_cell hX.out 9).trans rfl, (blk_cell hX.out 10).trans rfl⟩ (fun hHeld => ?_); refine with_tabW asks_tab3 asks_bits2 (fun HT_ HW_ => ?_)
 refine pA 0 HT_ ?_
 refine tA 2 HT_ HW_ ?_
 refine one_ (i := 1) (N := some 23) #[true, true, true, false, false, false, false, false, false, false, false] rfl rfl (one_of HT_.out (by kernel_rfl)) (by decide) (fun K hK => ?_)
 refine goes_ Try.func13 (by kernel_rfl) rfl #[.slice A0 l0.length c0] (by rfl) rfl rfl (by simp [Act.eval]) ?_
 refine (few_A A0 c0 l0 _ hc0).mono ?_
 rintro e w3 ⟨rfl, hb3⟩
 refine ⟨_, rfl, ?_⟩
 rw [HN.out.1]
 have n1_ := Aside0.mk (below_call hB.out hb3)
 have n2_ := Aside0.mk (boxc_below hX.out hb3)
 have n3_ := Aside0.mk (show True ∧ a.length ≤ c3 ∧ Kd.C k54 w3 A3 a.length a from ⟨trivial, RA.out.2.1, Kd.C_below RA.out.2.2 hb3⟩)
 clear hB hX hb3 RA
 have hB := n1_
 have hX := n2_
 clear n1_ n2_
 have RA := n3_
 clear n3_
 refine hK.out _ _ ⟨(blk_cell hX.out 0).trans rfl, (blk_cell hX.out 1).trans rfl, (blk_cell hX.out 2).trans rfl, (blk_cell hX.out 3).trans rfl, (blk_cell hX.out 4).trans rfl, (blk_cell hX.out 5).trans rfl, (blk_cell hX.out 6).trans rfl, (blk_cell hX.out 7).trans rfl, (blk_cell hX.out 8).trans rfl, (blk_cell hX.out 9).trans rfl, (blk_cell hX.out 10).trans rfl⟩ (fun hHeld => ?_)
 clear hK K
 refine norm_ (a' := ?_) ?_ ?_
 rotate_left
 ·show Act.put _ (some 23) _ = _
  simp only [Act.put, List.setIfInBounds_toArray, List.set_cons_zero, List.set_cons_succ, i64_w, i32_w]
  rfl
 refine one_ (i := 3) (N := some 25) #[true, true, true, true, false, false, false, false, false, false, false] rfl rfl (one_of HT_.out (by kernel_rfl)) (by decide) (fun K hK => ?_)
 refine goes_ Try.func14 (by kernel_rfl) rfl #[.slice A0 l.length c0, .agg #[.int .i64 q.kind, .int .u32 q.b0, .int .u32 q.b1, .int .u32 q.b2, .int .u32 q.b3, .int .u32 q.x, .int .u32 q.y, .int .u64 q.sq, .int .i64 q.k, .int .u64 q.after, .bool q.from_]] (by rfl) rfl rfl (by simp [Act.eval]) ?_
 refine (refAsk_calls k (by omega) l HWL.out HN.out.2.2.1 q wq A0 c0 _ (HN.out.2.2.2 _ hB.out) HN.out.2.1).mono ?_
 rintro e w4 ⟨v4, rfl, hR3, hb3⟩
 rw [HAS.out] at hR3 ⊢
 obtain ⟨A4, c4, rfl⟩ := Kd.R_slice hR3
 refine ⟨_, rfl, ?_⟩
 have RB := Aside0.mk (Kd.R_reads' hR3)
 have n3_ := Aside0.mk (Kd.C_below RA.out.2.2 hb3)
 have n1_ := Aside0.mk (below_call hB.out hb3)
 have n2_ := Aside0.mk (boxc_below hX.out hb3)
 clear hR3
 clear hB hX hb3
 have hB := n1_
 have hX := n2_
 clear n1_ n2_
 have CA := n3_
 clear n3_
 refine hK.out _ _ ⟨(blk_cell hX.out 0).trans rfl, (blk_cell hX.out 1).trans rfl, (blk_cell hX.out 2).trans rfl, (blk_cell hX.out 3).trans rfl, (blk_cell hX.out 4).trans rfl, (blk_cell hX.out 5).trans rfl, (blk_cell hX.out 6).trans rfl, (blk_cell hX.out 7).trans rfl, (blk_cell hX.out 8).trans rfl, (blk_cell hX.out 9).trans rfl, (blk_cell hX.out 10).trans rfl⟩ (fun hHeld => ?_)
 clear hK K
 refine norm_ (a' := ?_) ?_ ?_
 rotate_left
 ·show Act.put _ (some 25) _ = _
  simp only [Act.put, List.setIfInBounds_toArray, List.set_cons_zero, List.set_cons_succ, i64_w, i32_w]
  rfl
 refine pA 4 HT_ ?_
 refine pA 5 HT_ ?_
 refine pA 6 HT_ ?_
 refine pA 7 HT_ ?_
 refine pA 8 HT_ ?_
 refine pA 9 HT_ ?_
 refine pA 10 HT_ ?_
 refine done_ (done_of HT_.out (by kernel_rfl)) ?_
 clear HT_ HW_ hHeld

 go_wp2_with fail
 refine (sphragisref09_Same.calls k A3 c3 a A4 c4 a true _ CA.out RA.out.2.1 RB.out.2.2 RB.out.2.1 HSA.out).mono ?_
 rintro e w9 ⟨rfl, hb9'⟩
 have hb9 := hb9'.below
 have B9 := Aside0.mk (below_call hB.out hb9)
 clear hb9 hb9'
 go_wp2_with fail
 go_ret
 exact ⟨by simp, B9.out⟩
end Go.Proofs.Ytoimgijhekahhaa.P

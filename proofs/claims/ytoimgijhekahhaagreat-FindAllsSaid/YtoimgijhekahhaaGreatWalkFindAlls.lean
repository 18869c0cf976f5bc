/- Layer 11: the law FindAlls, walked. -/
import Derived.Test.YtoimgijhekahhaaGreatFindY
import Derived.Test.YtoimgijhekahhaaGreatShP
import Derived.Test.YtoimgijhekahhaaGreatStep
import Derived.Test.YtoimgijhekahhaaGreatPx3
namespace Go.Proofs.YtoimgijhekahhaaGreat.P
open Go.RowKit Go.Proofs.YtoimgijhekahhaaGreatOwn Go.Proofs.YtoimgijhekahhaaGreatW.PrintWords Go.Proofs.YtoimgijhekahhaaGreatW.PrintLast Go.Proofs.YtoimgijhekahhaaGreatW.PrintMore
set_option linter.unusedVariables false
set_option linter.unusedSimpArgs false
attribute [local go_sem] max2_int max_two min_two
def alls_T : Bool × List (List Nat × List Nat) := (true, [([], []), ([0], [0]), ([], []), ([], []), ([1, 2, 3, 1], [1, 2, 3]), ([4], [4]), ([5], [5]), ([5], [5]), ([6, 4, 0, 1, 2, 3, 4, 5, 6], [6]), ([7, 8, 0, 1, 2, 3, 4, 5, 6, 7, 8], [7])])
def alls_B : List Nat := [0, 1, 0, 0, 15, 31, 63, 63, 127, 511]
theorem alls_tab3 : rtab .any (opsOf Tryz.f3 3) = alls_T := by kernel_rfl
theorem alls_tab4 : rtab .any (opsOf Tryz.f3 4) = alls_T := by kernel_rfl
theorem alls_bits : waitsOk alls_T.2 alls_B = true := by kernel_rfl
/-- A query, where it lies. -/
def QAt (B : Nat) (q : Q11) (w : World) : Prop := w.cell? ⟨B, 0, none⟩ = some (.int .i64 q.kind) ∧ w.cell? ⟨B, 1, none⟩ = some (.int .u32 q.b0) ∧ w.cell? ⟨B, 2, none⟩ = some (.int .u32 q.b1) ∧ w.cell? ⟨B, 3, none⟩ = some (.int .u32 q.b2) ∧ w.cell? ⟨B, 4, none⟩ = some (.int .u32 q.b3) ∧ w.cell? ⟨B, 5, none⟩ = some (.int .u32 q.x) ∧ w.cell? ⟨B, 6, none⟩ = some (.int .u32 q.y) ∧ w.cell? ⟨B, 7, none⟩ = some (.int .u64 q.sq) ∧ w.cell? ⟨B, 8, none⟩ = some (.int .i64 q.k) ∧ w.cell? ⟨B, 9, none⟩ = some (.int .u64 q.after) ∧ w.cell? ⟨B, 10, none⟩ = some (.bool q.from_)
theorem QAt.of {B : Nat} {q : Q11} {w : World} (h : w.heap[B]? = some (.cells (encQ q) 28 (0, 0))) : QAt B q w := ⟨boxc_cell h 0, boxc_cell h 1, boxc_cell h 2, boxc_cell h 3, boxc_cell h 4, boxc_cell h 5, boxc_cell h 6, boxc_cell h 7, boxc_cell h 8, boxc_cell h 9, boxc_cell h 10⟩
theorem all_len {l : List Row} {q : Q11} {m : Int} (hl : l.length ≤ 60) : (allQ l q m).1.length ≤ 60 := by
 unfold allQ
 split
 ·exact Nat.zero_le _
 ·split
  ·split
   ·show ((fullP l q).take _).length ≤ 60
    have := full_len (l := l) (q := q)
    rw [List.length_take]
    omega
   ·exact Nat.zero_le _
  ·exact Nat.zero_le _
set_option maxRecDepth 100000 in
set_option maxHeartbeats 8000000 in
theorem sphragislaw11_FindAlls.calls (k : Nat) (A0 : Option Addr) (c0 : Nat) (l0 : List S37) (q : Q11) (most : Int) (r : Bool) (w : World) (hr0 : Kd.C k37 w A0 l0.length l0) (hc0 : l0.length ≤ c0) (h : r = true ∧ 4096 ≤ k ∧ (∀ s ∈ l0.take 60, wfRow s) ∧ wfQ q ∧ -9223372036854775808 ≤ most) :
  Calls Tryz.prog 3 #[.slice A0 l0.length c0, .agg (encQ q), .int .i64 most] w fun e w' => e = .returned (.bool r) ∧ Below w.heap.size w w' := by
 obtain ⟨rfl, hk, wl, wq, hmo⟩ := h
 obtain ⟨mm, hmm⟩ : ∃ mm, mn most 100 = mm := ⟨_, rfl⟩
 have hm2 : -9223372036854775808 ≤ mm ∧ mm ≤ 100 := by rw [← hmm]; unfold mn; split <;> omega
 have hmin : Builtin.min2 (.int .i64 most) (.int .i64 100) = pure (.int .i64 mm) := by
  rw [min2_int]
  exact congrArg (fun x => (pure (Value.int .i64 x) : Sem Value)) hmm
 obtain ⟨l, hl⟩ : ∃ l, l0.take 60 = l := ⟨_, rfl⟩
 rw [hl] at wl
 have hl60 : l.length ≤ 60 := by rw [← hl]; exact few_len l0
 have hll : l.length ≤ l0.length := by rw [← hl, List.length_take]; omega
 have HN := Aside0.mk (show (l0.take 60).length = l.length ∧ l.length ≤ c0 ∧ l.length ≤ 60 ∧ ∀ W, Below w.heap.size w W → Kd.C k37 W A0 l.length l from ⟨by rw [hl], Nat.le_trans hll hc0, hl60, fun W hb => by
  have := Kd.C_take (m := l.length) (Kd.C_below hr0 hb) hll
  rw [show l0.take l.length = l by rw [← hl, List.length_take]; simp] at this
  exact this⟩)
 have HWL := Aside0.mk wl
 have HM2 := Aside0.mk hm2
 obtain ⟨a, er, has⟩ : ∃ a er, allQ l q mm = (a, er) := ⟨_, _, rfl⟩
 have HAS := Aside0.mk has
 have HSA := Aside0.mk (show sphragisref09_Same.f k a a = some true from by
  have h1 : (allQ l q mm).1.length ≤ 60 := all_len hl60
  rw [has] at h1
  exact same_eq (Nat.le_trans h1 (by decide)) (Nat.lt_of_le_of_lt h1 (by omega)))
 clear wl hl hl60 hll has hr0 hmm hmo hm2
 have X0 := Aside0.mk (show (w.alloc (.cells (encQ q) 28)).heap[w.heap.size]? = some (.cells (encQ q) 28 (0, 0)) from boxc_new w _ _)
 have B0 := Aside0.mk (below_alloc' (Below.refl _ w) (.cells (encQ q) 28))
 have HQV : encQ q = #[.int .i64 q.kind, .int .u32 q.b0, .int .u32 q.b1, .int .u32 q.b2, .int .u32 q.b3, .int .u32 q.x, .int .u32 q.y, .int .u64 q.sq, .int .i64 q.k, .int .u64 q.after, .bool q.from_] := rfl
 rw [HQV]
 have HQV := Aside0.mk HQV
 go_enter Tryz.func3, Tryz.ntmps3
 go_wp2_with fail
 refine (shown_ok _).mono ?_
 rintro e w1 ⟨rfl, hb1⟩
 have hB := Aside0.mk (below_drew1 (below_call B0.out hb1))
 have hX := Aside0.mk (blk_drew (boxc_below X0.out hb1))
 clear B0 X0 hb1
 go_wp2_with fail
 refine sA 10 (QAt w.heap.size q) [] alls_tab3 alls_bits (QAt.of hX.out) (fun HT_ HW_ hHeld => ?_)
 refine pA 0 HT_ ?_
 refine pA 3 HT_ ?_
 refine tA 2 HT_ HW_ ?_
 refine oA 1 HT_ (fun K hK => ?_)
 refine gA Tryz.func6 #[.slice A0 l0.length c0] ?_
 refine (few_A A0 c0 l0 _ hc0).mono ?_
 rintro e w3 ⟨rfl, hb3⟩
 refine ⟨_, rfl, ?_⟩
 rw [HN.out.1]
 have n1_ := Aside0.mk (below_call hB.out hb3)
 have n2_ := Aside0.mk (boxc_below hX.out hb3)
 clear hB hX hb3
 have hB := n1_
 have hX := n2_
 clear n1_ n2_
 refine hK.out _ _ (QAt.of hX.out) (fun hHeld => ?_)
 clear hK K
 refine nA ?_
 refine oA 4 HT_ (fun K hK => ?_)
 refine gA Tryz.func5 #[.slice A0 l.length c0, .agg #[.int .i64 q.kind, .int .u32 q.b0, .int .u32 q.b1, .int .u32 q.b2, .int .u32 q.b3, .int .u32 q.x, .int .u32 q.y, .int .u64 q.sq, .int .i64 q.k, .int .u64 q.after, .bool q.from_], .int .i64 mm] ?_
 refine (All_calls k (by omega) A0 c0 l HWL.out HN.out.2.2.1 q wq mm HM2.out _ (HN.out.2.2.2 _ hB.out) HN.out.2.1).mono ?_
 rw [HAS.out]
 rintro e w4 ⟨v4, rfl, hR3, hb3⟩
 obtain ⟨A3, c3, rfl⟩ := Kd.R_slice hR3
 refine ⟨_, rfl, ?_⟩
 have n1_ := Aside0.mk (below_call hB.out hb3)
 have n2_ := Aside0.mk (boxc_below hX.out hb3)
 have RA := Aside0.mk (Kd.R_reads' hR3).2
 clear hR3 hB hX hb3
 have hB := n1_
 have hX := n2_
 clear n1_ n2_
 refine hK.out _ _ (QAt.of hX.out) (fun hHeld => ?_)
 clear hK K
 refine nA ?_
 refine pA 5 HT_ ?_
 refine pA 6 HT_ ?_
 refine pA 7 HT_ ?_
 refine pA 8 HT_ ?_
 refine pA 9 HT_ ?_
 refine done_ (done_of HT_.out (by kernel_rfl)) ?_
 clear HT_ HW_ hHeld
 have n1_ := Aside0.mk (below_drew1 hB.out)
 have n2_ := Aside0.mk (blk_drew hX.out)
 have n3_ := Aside0.mk (show a.length ≤ c3 ∧ Kd.C k37 _ A3 a.length a from ⟨RA.out.1, Kd.C_drew RA.out.2⟩)
 clear hB hX RA
 have hB := n1_
 have hX := n2_
 have RA := n3_
 clear n1_ n2_ n3_
 go_wp2_with fail
 refine sA 10 (QAt w.heap.size q) [] alls_tab4 alls_bits (QAt.of hX.out) (fun HT_ HW_ hHeld => ?_)
 refine pA 0 HT_ ?_
 refine pA 3 HT_ ?_
 refine tA 2 HT_ HW_ ?_
 refine oA 1 HT_ (fun K hK => ?_)
 refine gA Tryz.func6 #[.slice A0 l0.length c0] ?_
 refine (few_A A0 c0 l0 _ hc0).mono ?_
 rintro e w3 ⟨rfl, hb3⟩
 refine ⟨_, rfl, ?_⟩
 rw [HN.out.1]
 have n1_ := Aside0.mk (below_call hB.out hb3)
 have n2_ := Aside0.mk (boxc_below hX.out hb3)
 have n3_ := Aside0.mk (show a.length ≤ c3 ∧ Kd.C k37 w3 A3 a.length a from ⟨RA.out.1, Kd.C_below RA.out.2 hb3⟩)
 clear RA
 have RA := n3_
 clear n3_
 clear hB hX hb3
 have hB := n1_
 have hX := n2_
 clear n1_ n2_
 refine hK.out _ _ (QAt.of hX.out) (fun hHeld => ?_)
 clear hK K
 refine nA ?_
 refine oA 4 HT_ (fun K hK => ?_)
 refine gA Tryz.func7 #[.slice A0 l.length c0, .agg #[.int .i64 q.kind, .int .u32 q.b0, .int .u32 q.b1, .int .u32 q.b2, .int .u32 q.b3, .int .u32 q.x, .int .u32 q.y, .int .u64 q.sq, .int .i64 q.k, .int .u64 q.after, .bool q.from_], .int .i64 mm] ?_
 refine (refAll_calls k hk A0 c0 l HWL.out HN.out.2.2.1 q wq mm HM2.out.2 _ (HN.out.2.2.2 _ hB.out) HN.out.2.1).mono ?_
 rw [HAS.out]
 rintro e w4 ⟨v4, rfl, hR3, hb3⟩
 obtain ⟨A4, c4, rfl⟩ := Kd.R_slice hR3
 refine ⟨_, rfl, ?_⟩
 have n1_ := Aside0.mk (below_call hB.out hb3)
 have n2_ := Aside0.mk (boxc_below hX.out hb3)
 have n3_ := Aside0.mk (show a.length ≤ c3 ∧ Kd.C k37 w4 A3 a.length a from ⟨RA.out.1, Kd.C_below RA.out.2 hb3⟩)
 clear RA
 have RA := n3_
 clear n3_
 have RB := Aside0.mk (Kd.R_reads' hR3).2
 clear hR3 hB hX hb3
 have hB := n1_
 have hX := n2_
 clear n1_ n2_
 refine hK.out _ _ (QAt.of hX.out) (fun hHeld => ?_)
 clear hK K
 refine nA ?_
 refine pA 5 HT_ ?_
 refine pA 6 HT_ ?_
 refine pA 7 HT_ ?_
 refine pA 8 HT_ ?_
 refine pA 9 HT_ ?_
 refine done_ (done_of HT_.out (by kernel_rfl)) ?_
 clear HT_ HW_ hHeld
 have HSA9 := HSA.out
 go_wp2_with fail
 refine (sphragisref09_Same.calls k A3 c3 a A4 c4 a true _ RA.out.2 RA.out.1 RB.out.2 RB.out.1 HSA.out).mono ?_
 rintro e w9 ⟨rfl, hb9'⟩
 have hb9 := hb9'.below
 have B9 := Aside0.mk (below_call hB.out hb9)
 clear hb9 hb9' HSA9
 go_wp2_with fail
 go_ret
 exact ⟨by simp, B9.out⟩
end Go.Proofs.YtoimgijhekahhaaGreat.P

/- Layer 11, find: which queries may be (find.Check): walked. -/
import Derived.Test.YtoimgijhekahhaaGreatStep
import Derived.Test.YtoimgijhekahhaaGreatFindC
namespace Go.Proofs.YtoimgijhekahhaaGreat.P
open Go.RowKit Go.Proofs.YtoimgijhekahhaaGreatOwn Go.Proofs.YtoimgijhekahhaaGreatW.PrintWords Go.Proofs.YtoimgijhekahhaaGreatW.PrintLast Go.Proofs.YtoimgijhekahhaaGreatW.PrintMore
set_option linter.unusedVariables false
set_option linter.unusedSimpArgs false
attribute [local go_sem] max2_int min2_int max_two min_two
def checkP (q : Q11) : Int := if q.kind < 1 ∨ 4 < q.kind then 2 else if (if q.kind = 3 then q.k < 0 else q.k < 1) ∨ 64 < q.k then 82 else if q.kind = 1 ∧ cell_RightBox.f q.b0 q.b1 q.b2 q.b3 = some false then 81 else if (q.kind = 2 ∨ q.kind = 3) ∧ 2147483648 ≤ mx q.x q.y then 2 else 0
def check_T5 : Bool × List (List Nat × List Nat) := (true, [([], []), ([], []), ([1], [1]), ([0, 2], [0, 2]), ([3], [3]), ([4, 0], [4])])
def check_B5 : List Nat := [0, 0, 2, 7, 15, 31]
theorem check_tab5 : rtab .any (opsOf Tryz.f15 5) = check_T5 := by kernel_rfl
theorem check_bits5 : waitsOk check_T5.2 check_B5 = true := by kernel_rfl
set_option maxRecDepth 100000 in
set_option maxHeartbeats 8000000 in
theorem check_bad (q : Q11) (w : World) (hk : q.kind < 1 ∨ 4 < q.kind) : Calls Tryz.prog 15 #[.agg (encQ q)] w fun e w' => e = .returned (.int .i64 2) ∧ Below w.heap.size w w' := by
 have hkv : kindV q.kind = .nilFunc := by unfold kindV; rw [if_neg (by omega), if_neg (by omega), if_neg (by omega), if_neg (by omega)]
 have e3 : (q.kind == 3) = false := beq_eq_false_iff_ne.2 (by omega)
 have e2 : (q.kind == 2) = false := beq_eq_false_iff_ne.2 (by omega)
 clear hk
 have hX := Aside0.mk (blk_drew (boxc_new w #[.int .i64 q.kind, .int .u32 q.b0, .int .u32 q.b1, .int .u32 q.b2, .int .u32 q.b3, .int .u32 q.x, .int .u32 q.y, .int .u64 q.sq, .int .i64 q.k, .int .u64 q.after, .bool q.from_] 28))
 have hB := Aside0.mk (below_drew1 (below_alloc' (Below.refl _ w) (.cells #[.int .i64 q.kind, .int .u32 q.b0, .int .u32 q.b1, .int .u32 q.b2, .int .u32 q.b3, .int .u32 q.x, .int .u32 q.y, .int .u64 q.sq, .int .i64 q.k, .int .u64 q.after, .bool q.from_] 28)))
 unfold encQ
 go_enter Tryz.func15, Tryz.ntmps15
 go_wp2_with fail
 refine start_ (n := 6) (S := fun w' => w'.cell? ⟨w.heap.size, 0, none⟩ = some (.int .i64 q.kind)) (ds := []) #[false, false, false, false, false, false] (by kernel_rfl) rfl rfl ((blk_cell hX.out 0).trans rfl) (fun hHeld => ?_); refine with_tabW check_tab5 check_bits5 (fun HT_ HW_ => ?_)
 generalize (w.alloc (.cells #[.int .i64 q.kind, .int .u32 q.b0, .int .u32 q.b1, .int .u32 q.b2, .int .u32 q.b3, .int .u32 q.x, .int .u32 q.y, .int .u64 q.sq, .int .i64 q.k, .int .u64 q.after, .bool q.from_] 28)).drew = w2 at hX hB hHeld ⊢
 have hE := fun W => eqlF_nil W
 refine pA 1 HT_ ?_
 refine tA 2 HT_ HW_ ?_
 refine oA 0 HT_ (fun K hK => ?_)
 refine goes_ Tryz.func20 (by kernel_rfl) rfl #[] (by rfl) rfl rfl (by simp) ?_
 refine (kinds_calls _).mono ?_
 rintro e w3 ⟨bm, rfl, hm, hbm, hb3⟩
 refine ⟨_, rfl, ?_⟩
 have n1_ := Aside0.mk (below_call hB.out hb3)
 have n2_ := Aside0.mk (boxc_below hX.out hb3)
 have hget := mapGet hm q.kind
 rw [hkv] at hget
 clear hB hX hm hbm hb3
 have hB := n1_
 have hX := n2_
 clear n1_ n2_
 refine hK.out _ _ ((blk_cell hX.out 0).trans rfl) (fun hHeld => ?_)
 clear hK K
 refine nA ?_
 refine oA 3 HT_ (fun K hK => ?_)
 refine value_ (w1 := ?_) (v := ?_) (by rfl) rfl ?_ ?_
 rotate_left 2
 ·go_simp
  constructor
  ·rfl
  ·rfl
 refine hK.out _ _ ((blk_cell hX.out 0).trans rfl) (fun hHeld => ?_)
 clear hK K
 refine nA ?_
 refine pA 4 HT_ ?_
 refine pA 5 HT_ ?_
 refine done_ (done_of HT_.out (by kernel_rfl)) ?_
 go_wp2_with fail
 go_ret
 exact ⟨rfl, hB.out⟩
set_option maxRecDepth 100000 in
set_option maxHeartbeats 8000000 in
theorem check_near (q : Q11) (w : World) (hk : q.kind = 3) : Calls Tryz.prog 15 #[.agg (encQ q)] w fun e w' => e = .returned (.int .i64 (checkP q)) ∧ Below w.heap.size w w' := by
 have hkv : kindV q.kind = .func (.func 35) #[] #[] := by unfold kindV; rw [if_neg (by omega), if_neg (by omega), if_pos hk]
 have e3 : (q.kind == 3) = true := beq_iff_eq.2 hk
 have e2 : (q.kind == 2) = false := beq_eq_false_iff_ne.2 (by omega)
 have e1 : (q.kind == 1) = false := beq_eq_false_iff_ne.2 (by omega)
 have HK := Aside0.mk hk
 clear hk
 have hX := Aside0.mk (blk_drew (boxc_new w #[.int .i64 q.kind, .int .u32 q.b0, .int .u32 q.b1, .int .u32 q.b2, .int .u32 q.b3, .int .u32 q.x, .int .u32 q.y, .int .u64 q.sq, .int .i64 q.k, .int .u64 q.after, .bool q.from_] 28))
 have hB := Aside0.mk (below_drew1 (below_alloc' (Below.refl _ w) (.cells #[.int .i64 q.kind, .int .u32 q.b0, .int .u32 q.b1, .int .u32 q.b2, .int .u32 q.b3, .int .u32 q.x, .int .u32 q.y, .int .u64 q.sq, .int .i64 q.k, .int .u64 q.after, .bool q.from_] 28)))
 unfold encQ
 go_enter Tryz.func15, Tryz.ntmps15
 go_wp2_with fail
 refine start_ (n := 6) (S := fun w' => w'.cell? ⟨w.heap.size, 0, none⟩ = some (.int .i64 q.kind)) (ds := []) #[false, false, false, false, false, false] (by kernel_rfl) rfl rfl ((blk_cell hX.out 0).trans rfl) (fun hHeld => ?_); refine with_tabW check_tab5 check_bits5 (fun HT_ HW_ => ?_)
 generalize (w.alloc (.cells #[.int .i64 q.kind, .int .u32 q.b0, .int .u32 q.b1, .int .u32 q.b2, .int .u32 q.b3, .int .u32 q.x, .int .u32 q.y, .int .u64 q.sq, .int .i64 q.k, .int .u64 q.after, .bool q.from_] 28)).drew = w2 at hX hB hHeld ⊢
 have hE := fun W => eqlF_some W (.func 35) #[] #[]
 refine pA 1 HT_ ?_
 refine tA 2 HT_ HW_ ?_
 refine oA 0 HT_ (fun K hK => ?_)
 refine goes_ Tryz.func20 (by kernel_rfl) rfl #[] (by rfl) rfl rfl (by simp) ?_
 refine (kinds_calls _).mono ?_
 rintro e w3 ⟨bm, rfl, hm, hbm, hb3⟩
 refine ⟨_, rfl, ?_⟩
 have n1_ := Aside0.mk (below_call hB.out hb3)
 have n2_ := Aside0.mk (boxc_below hX.out hb3)
 have hget := mapGet hm q.kind
 rw [hkv] at hget
 clear hB hX hm hbm hb3
 have hB := n1_
 have hX := n2_
 clear n1_ n2_
 refine hK.out _ _ ((blk_cell hX.out 0).trans rfl) (fun hHeld => ?_)
 clear hK K
 refine nA ?_
 refine oA 3 HT_ (fun K hK => ?_)
 refine value_ (w1 := ?_) (v := ?_) (by rfl) rfl ?_ ?_
 rotate_left 2
 ·go_simp
  constructor
  ·rfl
  ·rfl
 refine hK.out _ _ ((blk_cell hX.out 0).trans rfl) (fun hHeld => ?_)
 clear hK K
 refine nA ?_
 refine pA 4 HT_ ?_
 refine pA 5 HT_ ?_
 refine done_ (done_of HT_.out (by kernel_rfl)) ?_
 have c0 := boxc_cell hX.out 0
 have c1 := boxc_cell hX.out 1
 have c2 := boxc_cell hX.out 2
 have c3 := boxc_cell hX.out 3
 have c4 := boxc_cell hX.out 4
 have c5 := boxc_cell hX.out 5
 have c6 := boxc_cell hX.out 6
 have c8 := boxc_cell hX.out 8
 have hk := HK.out
 by_cases h1 : q.k < 0
 ·have hb1 : decide (q.k < 0) = true := decide_eq_true h1
  have HRES : Aside0 (checkP q = 82) := ⟨by unfold checkP; rw [if_neg (by omega), if_pos (by left; rw [if_pos hk]; exact h1)]⟩
  clear h1 hk
  go_wp2
  go_ret
  exact ⟨by rw [HRES.out]; rfl, hB.out⟩
 have hb1 : decide (q.k < 0) = false := decide_eq_false h1
 by_cases h2 : 64 < q.k
 ·have hb2 : decide (64 < q.k) = true := decide_eq_true h2
  have HRES : Aside0 (checkP q = 82) := ⟨by unfold checkP; rw [if_neg (by omega), if_pos (.inr h2)]⟩
  clear h1 h2 hk
  go_wp2
  go_ret
  exact ⟨by rw [HRES.out]; rfl, hB.out⟩
 have hb2 : decide (64 < q.k) = false := decide_eq_false h2
 obtain ⟨m, hm⟩ : ∃ m, (if q.x < q.y then q.y else q.x) = m := ⟨_, rfl⟩
 have hmx : mx q.x q.y = m := hm
 by_cases h3 : 2147483648 ≤ m
 ·have hb3 : decide (2147483648 ≤ m) = true := decide_eq_true h3
  have HRES : Aside0 (checkP q = 2) := ⟨by unfold checkP; rw [if_neg (by omega), if_neg (by rw [if_pos hk]; omega), if_neg (by omega), if_pos ⟨by omega, by rw [hmx]; exact h3⟩]⟩
  clear h1 h2 h3 hk hmx
  go_wp2
  go_ret
  exact ⟨by rw [HRES.out]; rfl, hB.out⟩
 ·have hb3 : decide (2147483648 ≤ m) = false := decide_eq_false h3
  have HRES : Aside0 (checkP q = 0) := ⟨by unfold checkP; rw [if_neg (by omega), if_neg (by rw [if_pos hk]; omega), if_neg (by omega), if_neg (by rw [hmx]; omega)]⟩
  clear h1 h2 h3 hk hmx
  go_wp2
  go_ret
  exact ⟨by rw [HRES.out]; rfl, hB.out⟩
set_option maxRecDepth 100000 in
set_option maxHeartbeats 8000000 in
theorem check_two (q : Q11) (w : World) (hk : q.kind = 2) : Calls Tryz.prog 15 #[.agg (encQ q)] w fun e w' => e = .returned (.int .i64 (checkP q)) ∧ Below w.heap.size w w' := by
 have hkv : kindV q.kind = .func (.func 33) #[] #[] := by unfold kindV; rw [if_neg (by omega), if_pos hk]
 have e3 : (q.kind == 3) = false := beq_eq_false_iff_ne.2 (by omega)
 have e2 : (q.kind == 2) = true := beq_iff_eq.2 hk
 have e1 : (q.kind == 1) = false := beq_eq_false_iff_ne.2 (by omega)
 have HK := Aside0.mk hk
 clear hk
 have hX := Aside0.mk (blk_drew (boxc_new w #[.int .i64 q.kind, .int .u32 q.b0, .int .u32 q.b1, .int .u32 q.b2, .int .u32 q.b3, .int .u32 q.x, .int .u32 q.y, .int .u64 q.sq, .int .i64 q.k, .int .u64 q.after, .bool q.from_] 28))
 have hB := Aside0.mk (below_drew1 (below_alloc' (Below.refl _ w) (.cells #[.int .i64 q.kind, .int .u32 q.b0, .int .u32 q.b1, .int .u32 q.b2, .int .u32 q.b3, .int .u32 q.x, .int .u32 q.y, .int .u64 q.sq, .int .i64 q.k, .int .u64 q.after, .bool q.from_] 28)))
 unfold encQ
 go_enter Tryz.func15, Tryz.ntmps15
 go_wp2_with fail
 refine start_ (n := 6) (S := fun w' => w'.cell? ⟨w.heap.size, 0, none⟩ = some (.int .i64 q.kind)) (ds := []) #[false, false, false, false, false, false] (by kernel_rfl) rfl rfl ((blk_cell hX.out 0).trans rfl) (fun hHeld => ?_); refine with_tabW check_tab5 check_bits5 (fun HT_ HW_ => ?_)
 generalize (w.alloc (.cells #[.int .i64 q.kind, .int .u32 q.b0, .int .u32 q.b1, .int .u32 q.b2, .int .u32 q.b3, .int .u32 q.x, .int .u32 q.y, .int .u64 q.sq, .int .i64 q.k, .int .u64 q.after, .bool q.from_] 28)).drew = w2 at hX hB hHeld ⊢
 have hE := fun W => eqlF_some W (.func 33) #[] #[]
 refine pA 1 HT_ ?_
 refine tA 2 HT_ HW_ ?_
 refine oA 0 HT_ (fun K hK => ?_)
 refine goes_ Tryz.func20 (by kernel_rfl) rfl #[] (by rfl) rfl rfl (by simp) ?_
 refine (kinds_calls _).mono ?_
 rintro e w3 ⟨bm, rfl, hm, hbm, hb3⟩
 refine ⟨_, rfl, ?_⟩
 have n1_ := Aside0.mk (below_call hB.out hb3)
 have n2_ := Aside0.mk (boxc_below hX.out hb3)
 have hget := mapGet hm q.kind
 rw [hkv] at hget
 clear hB hX hm hbm hb3
 have hB := n1_
 have hX := n2_
 clear n1_ n2_
 refine hK.out _ _ ((blk_cell hX.out 0).trans rfl) (fun hHeld => ?_)
 clear hK K
 refine nA ?_
 refine oA 3 HT_ (fun K hK => ?_)
 refine value_ (w1 := ?_) (v := ?_) (by rfl) rfl ?_ ?_
 rotate_left 2
 ·go_simp
  constructor
  ·rfl
  ·rfl
 refine hK.out _ _ ((blk_cell hX.out 0).trans rfl) (fun hHeld => ?_)
 clear hK K
 refine nA ?_
 refine pA 4 HT_ ?_
 refine pA 5 HT_ ?_
 refine done_ (done_of HT_.out (by kernel_rfl)) ?_
 have c0 := boxc_cell hX.out 0
 have c1 := boxc_cell hX.out 1
 have c2 := boxc_cell hX.out 2
 have c3 := boxc_cell hX.out 3
 have c4 := boxc_cell hX.out 4
 have c5 := boxc_cell hX.out 5
 have c6 := boxc_cell hX.out 6
 have c8 := boxc_cell hX.out 8
 have hk := HK.out
 by_cases h1 : q.k < 1
 ·have hb1 : decide (q.k < 1) = true := decide_eq_true h1
  have HRES : Aside0 (checkP q = 82) := ⟨by unfold checkP; rw [if_neg (by omega), if_pos (by left; rw [if_neg (by omega)]; exact h1)]⟩
  clear h1 hk
  go_wp2
  go_ret
  exact ⟨by rw [HRES.out]; rfl, hB.out⟩
 have hb1 : decide (q.k < 1) = false := decide_eq_false h1
 by_cases h2 : 64 < q.k
 ·have hb2 : decide (64 < q.k) = true := decide_eq_true h2
  have HRES : Aside0 (checkP q = 82) := ⟨by unfold checkP; rw [if_neg (by omega), if_pos (.inr h2)]⟩
  clear h1 h2 hk
  go_wp2
  go_ret
  exact ⟨by rw [HRES.out]; rfl, hB.out⟩
 have hb2 : decide (64 < q.k) = false := decide_eq_false h2
 obtain ⟨m, hm⟩ : ∃ m, (if q.x < q.y then q.y else q.x) = m := ⟨_, rfl⟩
 have hmx : mx q.x q.y = m := hm
 by_cases h3 : 2147483648 ≤ m
 ·have hb3 : decide (2147483648 ≤ m) = true := decide_eq_true h3
  have HRES : Aside0 (checkP q = 2) := ⟨by unfold checkP; rw [if_neg (by omega), if_neg (by rw [if_neg (by omega)]; omega), if_neg (by omega), if_pos ⟨by omega, by rw [hmx]; exact h3⟩]⟩
  clear h1 h2 h3 hk hmx
  go_wp2
  go_ret
  exact ⟨by rw [HRES.out]; rfl, hB.out⟩
 ·have hb3 : decide (2147483648 ≤ m) = false := decide_eq_false h3
  have HRES : Aside0 (checkP q = 0) := ⟨by unfold checkP; rw [if_neg (by omega), if_neg (by rw [if_neg (by omega)]; omega), if_neg (by omega), if_neg (by rw [hmx]; omega)]⟩
  clear h1 h2 h3 hk hmx
  go_wp2
  go_ret
  exact ⟨by rw [HRES.out]; rfl, hB.out⟩
set_option maxRecDepth 100000 in
set_option maxHeartbeats 8000000 in
theorem check_oth (q : Q11) (w : World) (f : Nat) (hk : q.kind = 1 ∨ q.kind = 4) (hkv : kindV q.kind = .func (.func f) #[] #[]) : Calls Tryz.prog 15 #[.agg (encQ q)] w fun e w' => e = .returned (.int .i64 (checkP q)) ∧ Below w.heap.size w w' := by
 have e3 : (q.kind == 3) = false := beq_eq_false_iff_ne.2 (by omega)
 have e2 : (q.kind == 2) = false := beq_eq_false_iff_ne.2 (by omega)
 have HK := Aside0.mk hk
 clear hk
 have hX := Aside0.mk (blk_drew (boxc_new w #[.int .i64 q.kind, .int .u32 q.b0, .int .u32 q.b1, .int .u32 q.b2, .int .u32 q.b3, .int .u32 q.x, .int .u32 q.y, .int .u64 q.sq, .int .i64 q.k, .int .u64 q.after, .bool q.from_] 28))
 have hB := Aside0.mk (below_drew1 (below_alloc' (Below.refl _ w) (.cells #[.int .i64 q.kind, .int .u32 q.b0, .int .u32 q.b1, .int .u32 q.b2, .int .u32 q.b3, .int .u32 q.x, .int .u32 q.y, .int .u64 q.sq, .int .i64 q.k, .int .u64 q.after, .bool q.from_] 28)))
 unfold encQ
 go_enter Tryz.func15, Tryz.ntmps15
 go_wp2_with fail
 refine start_ (n := 6) (S := fun w' => w'.cell? ⟨w.heap.size, 0, none⟩ = some (.int .i64 q.kind)) (ds := []) #[false, false, false, false, false, false] (by kernel_rfl) rfl rfl ((blk_cell hX.out 0).trans rfl) (fun hHeld => ?_); refine with_tabW check_tab5 check_bits5 (fun HT_ HW_ => ?_)
 generalize (w.alloc (.cells #[.int .i64 q.kind, .int .u32 q.b0, .int .u32 q.b1, .int .u32 q.b2, .int .u32 q.b3, .int .u32 q.x, .int .u32 q.y, .int .u64 q.sq, .int .i64 q.k, .int .u64 q.after, .bool q.from_] 28)).drew = w2 at hX hB hHeld ⊢
 have hE := fun W => eqlF_some W (.func f) #[] #[]
 refine pA 1 HT_ ?_
 refine tA 2 HT_ HW_ ?_
 refine oA 0 HT_ (fun K hK => ?_)
 refine goes_ Tryz.func20 (by kernel_rfl) rfl #[] (by rfl) rfl rfl (by simp) ?_
 refine (kinds_calls _).mono ?_
 rintro e w3 ⟨bm, rfl, hm, hbm, hb3⟩
 refine ⟨_, rfl, ?_⟩
 have n1_ := Aside0.mk (below_call hB.out hb3)
 have n2_ := Aside0.mk (boxc_below hX.out hb3)
 have hget := mapGet hm q.kind
 rw [hkv] at hget
 clear hB hX hm hbm hb3
 have hB := n1_
 have hX := n2_
 clear n1_ n2_
 refine hK.out _ _ ((blk_cell hX.out 0).trans rfl) (fun hHeld => ?_)
 clear hK K
 refine nA ?_
 refine oA 3 HT_ (fun K hK => ?_)
 refine value_ (w1 := ?_) (v := ?_) (by rfl) rfl ?_ ?_
 rotate_left 2
 ·go_simp
  constructor
  ·rfl
  ·rfl
 refine hK.out _ _ ((blk_cell hX.out 0).trans rfl) (fun hHeld => ?_)
 clear hK K
 refine nA ?_
 refine pA 4 HT_ ?_
 refine pA 5 HT_ ?_
 refine done_ (done_of HT_.out (by kernel_rfl)) ?_
 have c0 := boxc_cell hX.out 0
 have c1 := boxc_cell hX.out 1
 have c2 := boxc_cell hX.out 2
 have c3 := boxc_cell hX.out 3
 have c4 := boxc_cell hX.out 4
 have c5 := boxc_cell hX.out 5
 have c6 := boxc_cell hX.out 6
 have c8 := boxc_cell hX.out 8
 have hk := HK.out
 by_cases h1 : q.k < 1
 ·have hb1 : decide (q.k < 1) = true := decide_eq_true h1
  have HRES : Aside0 (checkP q = 82) := ⟨by unfold checkP; rw [if_neg (by omega), if_pos (by left; rw [if_neg (by omega)]; exact h1)]⟩
  clear h1 hk
  go_wp2
  go_ret
  exact ⟨by rw [HRES.out]; rfl, hB.out⟩
 have hb1 : decide (q.k < 1) = false := decide_eq_false h1
 by_cases h2 : 64 < q.k
 ·have hb2 : decide (64 < q.k) = true := decide_eq_true h2
  have HRES : Aside0 (checkP q = 82) := ⟨by unfold checkP; rw [if_neg (by omega), if_pos (.inr h2)]⟩
  clear h1 h2 hk
  go_wp2
  go_ret
  exact ⟨by rw [HRES.out]; rfl, hB.out⟩
 have hb2 : decide (64 < q.k) = false := decide_eq_false h2
 by_cases hk1 : q.kind = 1
 ·have e1 : (q.kind == 1) = true := beq_iff_eq.2 hk1
  obtain ⟨t, ht⟩ := cell_RightBox.tot q.b0 q.b1 q.b2 q.b3
  have HH := Aside0.mk (And.intro hk1 (And.intro h1 h2))
  have HT := Aside0.mk ht
  clear hk hk1 h1 h2 ht
  go_wp2_with fail
  refine (cell_RightBox.calls q.b0 q.b1 q.b2 q.b3 t _ HT.out).mono ?_
  rintro e w4 ⟨rfl, hb4⟩
  have hB2 := Aside0.mk (below_call hB.out hb4)
  clear hb4 c0 c1 c2 c3 c4 c5 c6 c8 hB
  have hB := hB2
  obtain ⟨hk1, h1, h2⟩ := HH.out
  cases t with
  | false =>
   have HRES : Aside0 (checkP q = 81) := ⟨by unfold checkP; rw [if_neg (by omega), if_neg (by rw [if_neg (by omega)]; omega), if_pos ⟨hk1, HT.out⟩]⟩
   clear hk1 h1 h2
   go_wp2
   go_ret
   exact ⟨by rw [HRES.out]; rfl, hB.out⟩
  | true =>
   have HRES : Aside0 (checkP q = 0) := ⟨by unfold checkP; rw [if_neg (by omega), if_neg (by rw [if_neg (by omega)]; omega), if_neg (fun e => by have := e.2; rw [HT.out] at this; cases this), if_neg (by omega)]⟩
   clear hk1 h1 h2
   go_wp2
   go_ret
   exact ⟨by rw [HRES.out]; rfl, hB.out⟩
 have e1 : (q.kind == 1) = false := beq_eq_false_iff_ne.2 hk1
 have HRES : Aside0 (checkP q = 0) := ⟨by unfold checkP; rw [if_neg (by omega), if_neg (by rw [if_neg (by omega)]; omega), if_neg (by omega), if_neg (by omega)]⟩
 clear h1 h2 hk hk1
 go_wp2
 go_ret
 exact ⟨by rw [HRES.out]; rfl, hB.out⟩
theorem check_calls (q : Q11) (w : World) : Calls Tryz.prog 15 #[.agg (encQ q)] w fun e w' => e = .returned (.int .i64 (checkP q)) ∧ Below w.heap.size w w' := by
 by_cases hb : q.kind < 1 ∨ 4 < q.kind
 ·have : checkP q = 2 := by unfold checkP; rw [if_pos hb]
  rw [this]
  exact check_bad q w hb
 ·by_cases h3 : q.kind = 3
  ·exact check_near q w h3
  ·by_cases h1 : q.kind = 1
   ·exact check_oth q w 31 (.inl h1) (by unfold kindV; rw [if_pos h1])
   ·by_cases h2 : q.kind = 2
    ·exact check_two q w h2
    ·exact check_oth q w 37 (.inr (by omega)) (by unfold kindV; rw [if_neg h1, if_neg h2, if_neg h3, if_pos (by omega)])
end Go.Proofs.YtoimgijhekahhaaGreat.P

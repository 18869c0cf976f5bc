-- Laid by a program of this session: the walk of functions of the translation, for this claim.
import Derived.Test.YtoimgijhekahhaaPx0
import Derived.Test.YtoimgijhekahhaaPx1
import Derived.Test.YtoimgijhekahhaaPx3
import Derived.Test.YtoimgijhekahhaaPx5
namespace Go.Proofs.Ytoimgijhekahhaa.P
open Go.RowKit Go.Proofs.YtoimgijhekahhaaOwn Go.Proofs.YtoimgijhekahhaaW.PrintWords Go.Proofs.YtoimgijhekahhaaW.PrintLast Go.Proofs.YtoimgijhekahhaaW.PrintMore
attribute [local go_sem] max2_int min2_int max_two min_two max_three min_three max_four min_four   -- for this text's walks alone
set_option linter.unusedVariables false
set_option linter.unusedSimpArgs false

attribute [local go_sem high] eqA39
/-! ### cell_Least: function 75 -/
def cell_Least.f (a0 : Int) (a1 : Int) (a2 : Int) (a3 : Int) : Option (Int × Int × Int × Int) := if (mx (mx (mx a0 a1) a2) a3) ≥ 2147483648 then (some (0, 0, 0, 2)) else ((bits_Len32.f (Go.bits .or .u32 (Go.bits .xor .u32 a0 a2) (Go.bits .xor .u32 a1 a3))).bind fun t146 => ((cell_around.f a0 a1 t146).bind fun bt147 => ((cell_around.f a2 a3 t146).bind fun bt151 => (if (!(bt147.1 == bt151.1) || (!(bt147.2.1 == bt151.2.1) || (!(bt147.2.2 == bt151.2.2)))) = true then (some (0, 0, 0, 2)) else (some (bt147.1, bt147.2.1, bt147.2.2, 0))))))
set_option maxHeartbeats 8000000 in
set_option maxRecDepth 100000 in
theorem cell_Least.calls (a0 : Int) (a1 : Int) (a2 : Int) (a3 : Int) (r1 : Int) (r2 : Int) (r3 : Int) (r4 : Int) (w : World) (h : cell_Least.f a0 a1 a2 a3 = some (r1, r2, r3, r4)) :
  Calls Try.prog 75 #[.int .u32 a0, .int .u32 a1, .int .u32 a2, .int .u32 a3] w fun e w' => e = .returned (.tuple #[.agg #[.int .u32 r1, .int .u32 r2, .int .i64 r3], .int .i64 r4]) ∧ Below w.heap.size w w' := by
 have hu39 := Try.underlying39
 have HB := Aside0.mk (Below.refl w.heap.size w)
 have H : (if (mx (mx (mx a0 a1) a2) a3) ≥ 2147483648 then (some (0, 0, 0, 2)) else ((bits_Len32.f (Go.bits .or .u32 (Go.bits .xor .u32 a0 a2) (Go.bits .xor .u32 a1 a3))).bind fun t146 => ((cell_around.f a0 a1 t146).bind fun bt147 => ((cell_around.f a2 a3 t146).bind fun bt151 => (if (!(bt147.1 == bt151.1) || (!(bt147.2.1 == bt151.2.1) || (!(bt147.2.2 == bt151.2.2)))) = true then (some (0, 0, 0, 2)) else (some (bt147.1, bt147.2.1, bt147.2.2, 0))))))) = some (r1, r2, r3, r4) := h
 clear h
 obtain ⟨ji5, hji5⟩ : ∃ j_ : Int, (mx a0 a1) = j_ := ⟨_, rfl⟩
 replace H : (if (mx (mx (ji5) a2) a3) ≥ 2147483648 then (some (0, 0, 0, 2)) else ((bits_Len32.f (Go.bits .or .u32 (Go.bits .xor .u32 a0 a2) (Go.bits .xor .u32 a1 a3))).bind fun t146 => ((cell_around.f a0 a1 t146).bind fun bt147 => ((cell_around.f a2 a3 t146).bind fun bt151 => (if (!(bt147.1 == bt151.1) || (!(bt147.2.1 == bt151.2.1) || (!(bt147.2.2 == bt151.2.2)))) = true then (some (0, 0, 0, 2)) else (some (bt147.1, bt147.2.1, bt147.2.2, 0))))))) = some (r1, r2, r3, r4) := by first | (rw [hji5] at H; exact H) | (simp only [hji5] at H ⊢; exact H)
 have hji5_ : (if a0 < a1 then a1 else a0) = ji5 := hji5
 obtain ⟨ji6, hji6⟩ : ∃ j_ : Int, (mx (ji5) a2) = j_ := ⟨_, rfl⟩
 replace H : (if (mx (ji6) a3) ≥ 2147483648 then (some (0, 0, 0, 2)) else ((bits_Len32.f (Go.bits .or .u32 (Go.bits .xor .u32 a0 a2) (Go.bits .xor .u32 a1 a3))).bind fun t146 => ((cell_around.f a0 a1 t146).bind fun bt147 => ((cell_around.f a2 a3 t146).bind fun bt151 => (if (!(bt147.1 == bt151.1) || (!(bt147.2.1 == bt151.2.1) || (!(bt147.2.2 == bt151.2.2)))) = true then (some (0, 0, 0, 2)) else (some (bt147.1, bt147.2.1, bt147.2.2, 0))))))) = some (r1, r2, r3, r4) := by first | (rw [hji6] at H; exact H) | (simp only [hji6] at H ⊢; exact H)
 have hji6_ : (if (ji5) < a2 then a2 else (ji5)) = ji6 := hji6
 obtain ⟨ji7, hji7⟩ : ∃ j_ : Int, (mx (ji6) a3) = j_ := ⟨_, rfl⟩
 replace H : (if (ji7) ≥ 2147483648 then (some (0, 0, 0, 2)) else ((bits_Len32.f (Go.bits .or .u32 (Go.bits .xor .u32 a0 a2) (Go.bits .xor .u32 a1 a3))).bind fun t146 => ((cell_around.f a0 a1 t146).bind fun bt147 => ((cell_around.f a2 a3 t146).bind fun bt151 => (if (!(bt147.1 == bt151.1) || (!(bt147.2.1 == bt151.2.1) || (!(bt147.2.2 == bt151.2.2)))) = true then (some (0, 0, 0, 2)) else (some (bt147.1, bt147.2.1, bt147.2.2, 0))))))) = some (r1, r2, r3, r4) := by first | (rw [hji7] at H; exact H) | (simp only [hji7] at H ⊢; exact H)
 have hji7_ : (if (ji6) < a3 then a3 else (ji6)) = ji7 := hji7
 by_cases c8 : (ji7) ≥ 2147483648
 ·rw [if_pos c8] at H
  have c8b0 : decide (2147483648 ≤ (ji7)) = true := decide_eq_true c8
  clear c8
  simp only [Option.some.injEq, Prod.mk.injEq] at H
  obtain ⟨rfl, rfl, rfl, rfl⟩ := H
  go_enter Try.func75, Try.ntmps75
  go_wp2_with (first | ((with_reducible refine gate_dst (N := 8) rfl ?_); refine box_event ?hg (N := 8) ?hd (cs := #[.int .u32 0, .int .u32 0, .int .i64 0]) (t := 39) ?hr ?_; (case hd => rfl); (case hg => rfl); (case hr => first | (go_simp; done) | (go_simp; rfl)); intro gb145 hg w9 hbox hb; have n0_ := Aside0.mk (below_step (by repeat (first | (with_reducible first | exact HB.out | apply below_alloc | apply pw_below_drewN | apply below_drew1) | exact HB.out)) hb); have n1_ := Aside0.mk (hbox); have n2_ := Aside0.mk ((by rw [hg]; exact (below_size (by repeat (first | (with_reducible first | exact HB.out | apply below_alloc | apply pw_below_drewN | apply below_drew1) | exact HB.out))) : w.heap.size ≤ gb145)); have n3_ := Aside0.mk ((by rw [hg]; exact (below_size (by repeat (first | (with_reducible first | exact HB.out | apply below_alloc | apply pw_below_drewN | apply below_drew1) | exact HB.out))) : w.heap.size ≤ gb145)); clear HB; have HB := n0_; have BK145 := n1_; have GW145 := n2_; have GE145 := n3_; clear n0_ n1_ n2_ n3_; clear hb hbox hg; have hcz10_0 : w9.cell? ⟨gb145, 0, none⟩ = some (.int .u32 0) := (blk_cell BK145.out 0).trans rfl; have hcz10_1 : w9.cell? ⟨gb145, 1, none⟩ = some (.int .u32 0) := (blk_cell BK145.out 1).trans rfl; have hcz10_2 : w9.cell? ⟨gb145, 2, none⟩ = some (.int .i64 0) := (blk_cell BK145.out 2).trans rfl; have hfz10_0 := blk_frozen BK145.out 0; have hfz10_1 := blk_frozen BK145.out 1; have hfz10_2 := blk_frozen BK145.out 2))
  refine bodyPost_ret (results_ct rfl _ _ gb145 39 #[.int .u32 0, .int .u32 0, .int .i64 0] (0, 0) _ rfl (by (with_reducible repeat (first | refine blk_drewN ?_ _ | refine blk_drew ?_ | refine blk_alloc ?_ _)); refine blk_put (cs := #[.int .u32 0, .int .u32 0, .int .i64 0]) ?_ 2 _ (by first | rfl | (simp; done)); (with_reducible repeat (first | refine blk_drewN ?_ _ | refine blk_drew ?_ | refine blk_alloc ?_ _)); refine blk_put (cs := #[.int .u32 0, .int .u32 0, .int .i64 0]) ?_ 1 _ (by first | rfl | (simp; done)); (with_reducible repeat (first | refine blk_drewN ?_ _ | refine blk_drew ?_ | refine blk_alloc ?_ _)); refine blk_put (cs := #[.int .u32 0, .int .u32 0, .int .i64 0]) ?_ 0 _ (by first | rfl | (simp; done)); (with_reducible repeat (first | refine blk_drewN ?_ _ | refine blk_drew ?_ | refine blk_alloc ?_ _)); exact BK145.out) Try.underlying39 rfl (by kernel_rfl)) rfl ?_
  exact ⟨by first | rfl | (simp [errW_none, errW_some] <;> rfl) | (simp only [← hji5, ← hji6, ← hji7]; first | rfl | (simp [errW_none, errW_some] <;> rfl)) | (simp [*, errW_none, errW_some] <;> rfl), by repeat (first | (with_reducible first | exact HB.out | apply below_alloc | apply pw_below_drewN | apply below_drew1 | refine below_set ?_ GE145.out) | exact HB.out)⟩
 ·rw [if_neg c8] at H
  have c8b0 : decide (2147483648 ≤ (ji7)) = false := decide_eq_false c8
  clear c8
  replace H := Option.bind_eq_some_iff.mp H
  obtain ⟨t146, A110, H⟩ := H
  replace H : ((cell_around.f a0 a1 t146).bind fun bt147 => ((cell_around.f a2 a3 t146).bind fun bt151 => (if (!(bt147.1 == bt151.1) || (!(bt147.2.1 == bt151.2.1) || (!(bt147.2.2 == bt151.2.2)))) = true then (some (0, 0, 0, 2)) else (some (bt147.1, bt147.2.1, bt147.2.2, 0))))) = some (r1, r2, r3, r4) := H
  have A11 := Aside0.mk A110
  clear A110
  replace H := Option.bind_eq_some_iff.mp H
  obtain ⟨⟨t147, t148, t149⟩, A120, H⟩ := H
  replace H : ((cell_around.f a2 a3 t146).bind fun bt151 => (if (!(t147 == bt151.1) || (!(t148 == bt151.2.1) || (!(t149 == bt151.2.2)))) = true then (some (0, 0, 0, 2)) else (some (t147, t148, t149, 0)))) = some (r1, r2, r3, r4) := H
  have A12 := Aside0.mk A120
  clear A120
  replace H := Option.bind_eq_some_iff.mp H
  obtain ⟨⟨t151, t152, t153⟩, A130, H⟩ := H
  replace H : (if (!(t147 == t151) || (!(t148 == t152) || (!(t149 == t153)))) = true then (some (0, 0, 0, 2)) else (some (t147, t148, t149, 0))) = some (r1, r2, r3, r4) := H
  have A13 := Aside0.mk A130
  clear A130
  by_cases c14 : (!(t147 == t151) || (!(t148 == t152) || (!(t149 == t153)))) = true
  ·rw [if_pos c14] at H
   have c14b0 : (!(t147 == t151) || (!(t148 == t152) || (!(t149 == t153)))) = true := c14
   clear c14
   simp only [Option.some.injEq, Prod.mk.injEq] at H
   obtain ⟨rfl, rfl, rfl, rfl⟩ := H
   go_enter Try.func75, Try.ntmps75
   try go_wp2_with (first | ((with_reducible refine gate_dst (N := 8) rfl ?_); refine box_event ?hg (N := 8) ?hd (cs := #[.int .u32 0, .int .u32 0, .int .i64 0]) (t := 39) ?hr ?_; (case hd => rfl); (case hg => rfl); (case hr => first | (go_simp; done) | (go_simp; rfl)); intro gb145 hg w15 hbox hb; have n0_ := Aside0.mk (below_step (by repeat (first | (with_reducible first | exact HB.out | apply below_alloc | apply pw_below_drewN | apply below_drew1) | exact HB.out)) hb); have n1_ := Aside0.mk (hbox); have n2_ := Aside0.mk ((by rw [hg]; exact (below_size (by repeat (first | (with_reducible first | exact HB.out | apply below_alloc | apply pw_below_drewN | apply below_drew1) | exact HB.out))) : w.heap.size ≤ gb145)); have n3_ := Aside0.mk ((by rw [hg]; exact (below_size (by repeat (first | (with_reducible first | exact HB.out | apply below_alloc | apply pw_below_drewN | apply below_drew1) | exact HB.out))) : w.heap.size ≤ gb145)); clear HB; have HB := n0_; have BK145 := n1_; have GW145 := n2_; have GE145 := n3_; clear n0_ n1_ n2_ n3_; clear hb hbox hg) | ((with_reducible refine gate_callee (f := 89) rfl ?_); refine goesL_ (some 26) rfl rfl Try.func89 (by kernel_rfl) rfl #[.int .u32 (Go.bits .or .u32 (Go.bits .xor .u32 a0 a2) (Go.bits .xor .u32 a1 a3))] rfl (by (try simp only [List.map_toArray, List.map_cons, List.map_nil]); first | done | rfl | (simp only [List.length_drop, List.length_take]; rfl)) ?_; (with_reducible refine (bits_Len32.calls (Go.bits .or .u32 (Go.bits .xor .u32 a0 a2) (Go.bits .xor .u32 a1 a3)) t146 _ A11.out).mono ?_); rintro e w' ⟨rfl, ⟨nd, rfl⟩⟩; refine ⟨_, rfl, ?_⟩; (try (rw [drewN_self w15]; generalize hq_ : World.drewN w15 _ = w15; have n0_ : Aside0 (w15.heap[gb145]? = some (.cells #[.int .u32 0, .int .u32 0, .int .i64 0] 39 (0, 0))) := ⟨by rw [← hq_]; exact (by (with_reducible repeat (first | refine blk_drewN ?_ _ | refine blk_drew ?_ | refine blk_alloc ?_ _)); exact BK145.out)⟩; have n1_ : Aside0 (Below w.heap.size w w15) := ⟨by rw [← hq_]; exact (by repeat (first | (with_reducible first | exact HB.out | apply below_alloc | apply pw_below_drewN | apply below_drew1 | refine below_set ?_ GE145.out) | exact HB.out))⟩; clear BK145 HB hq_; have BK145 := n0_; have HB := n1_; clear n0_ n1_))) | ((with_reducible refine gate_callee (f := 91) rfl ?_); refine goesL_ (some 30) rfl rfl Try.func91 (by kernel_rfl) rfl #[.int .u32 a0, .int .u32 a1, .int .i64 t146] rfl (by (try simp only [List.map_toArray, List.map_cons, List.map_nil]); first | done | rfl | (simp only [List.length_drop, List.length_take]; rfl)) ?_; (with_reducible refine (cell_around.calls a0 a1 t146 t147 t148 t149 _ A12.out).mono ?_); rintro e w16 ⟨rfl, hb⟩; refine ⟨_, rfl, ?_⟩; have n0_ := Aside0.mk (blk_below (g := gb145) (o := .cells #[.int .u32 0, .int .u32 0, .int .i64 0] 39 (0, 0)) (by (with_reducible repeat (first | refine blk_drewN ?_ _ | refine blk_drew ?_ | refine blk_alloc ?_ _)); exact BK145.out) hb); have n1_ := Aside0.mk (below_step (by repeat (first | (with_reducible first | exact HB.out | apply below_alloc | apply pw_below_drewN | apply below_drew1 | refine below_set ?_ GE145.out) | exact HB.out)) hb); clear BK145; clear HB; have BK145 := n0_; have HB := n1_; clear n0_ n1_; (try clear hb); (try clear hb2); (try clear hk); (try clear hi)) | ((with_reducible refine gate_dst (N := 11) rfl ?_); refine box_event ?hg (N := 11) ?hd (cs := #[.int .u32 0, .int .u32 0, .int .i64 0]) (t := 39) ?hr ?_; (case hd => rfl); (case hg => rfl); (case hr => first | (go_simp; done) | (go_simp; rfl)); intro gb150 hg w17 hbox hb; have n0_ := Aside0.mk (blk_below (g := gb145) (o := .cells #[.int .u32 0, .int .u32 0, .int .i64 0] 39 (0, 0)) (by (with_reducible repeat (first | refine blk_drewN ?_ _ | refine blk_drew ?_ | refine blk_alloc ?_ _)); exact BK145.out) hb); have n1_ := Aside0.mk (below_step (by repeat (first | (with_reducible first | exact HB.out | apply below_alloc | apply pw_below_drewN | apply below_drew1 | refine below_set ?_ GE145.out) | exact HB.out)) hb); have n2_ := Aside0.mk (hbox); have n3_ := Aside0.mk ((by rw [hg]; exact (below_size (by repeat (first | (with_reducible first | exact HB.out | apply below_alloc | apply pw_below_drewN | apply below_drew1 | refine below_set ?_ GE145.out) | exact HB.out))) : w.heap.size ≤ gb150)); have n4_ := Aside0.mk ((by rw [hg]; exact (below_size (by repeat (first | (with_reducible first | exact HB.out | apply below_alloc | apply pw_below_drewN | apply below_drew1 | refine below_set ?_ GE145.out) | exact HB.out))) : w.heap.size ≤ gb150)); have n5_ := Aside0.mk ((by rw [hg]; exact Nat.ne_of_lt (blk_lt (g := gb145) (o := .cells #[.int .u32 0, .int .u32 0, .int .i64 0] 39 (0, 0)) (by (with_reducible repeat (first | refine blk_drewN ?_ _ | refine blk_drew ?_ | refine blk_alloc ?_ _)); exact BK145.out)) : gb145 ≠ gb150)); have n6_ := Aside0.mk ((by rw [hg]; exact Nat.ne_of_gt (blk_lt (g := gb145) (o := .cells #[.int .u32 0, .int .u32 0, .int .i64 0] 39 (0, 0)) (by (with_reducible repeat (first | refine blk_drewN ?_ _ | refine blk_drew ?_ | refine blk_alloc ?_ _)); exact BK145.out)) : gb150 ≠ gb145)); clear BK145; clear HB; have BK145 := n0_; have HB := n1_; have BK150 := n2_; have GW150 := n3_; have GE150 := n4_; have NB145_150 := n5_; have NB150_145 := n6_; clear n0_ n1_ n2_ n3_ n4_ n5_ n6_; clear hb hbox hg; have hnb18 := NB150_145.out; have hnc18 := NB145_150.out; have hcz19_0 : w17.cell? ⟨gb150, 0, none⟩ = some (.int .u32 0) := (blk_cell BK150.out 0).trans rfl; have hcz19_1 : w17.cell? ⟨gb150, 1, none⟩ = some (.int .u32 0) := (blk_cell BK150.out 1).trans rfl; have hcz19_2 : w17.cell? ⟨gb150, 2, none⟩ = some (.int .i64 0) := (blk_cell BK150.out 2).trans rfl; have hfz19_0 := blk_frozen BK150.out 0; have hfz19_1 := blk_frozen BK150.out 1; have hfz19_2 := blk_frozen BK150.out 2))
   have n0_ : Aside0 ((((w17.setCell ⟨gb150, 0, none⟩ (.int .u32 t147)).setCell ⟨gb150, 1, none⟩ (.int .u32 t148)).setCell ⟨gb150, 2, none⟩ (.int .i64 t149)).heap[gb145]? = some (.cells #[.int .u32 0, .int .u32 0, .int .i64 0] 39 (0, 0))) := ⟨by (with_reducible repeat (first | refine blk_drewN ?_ _ | refine blk_drew ?_ | refine blk_alloc ?_ _)); refine blk_far ?_ NB145_150.out _; (with_reducible repeat (first | refine blk_drewN ?_ _ | refine blk_drew ?_ | refine blk_alloc ?_ _)); refine blk_far ?_ NB145_150.out _; (with_reducible repeat (first | refine blk_drewN ?_ _ | refine blk_drew ?_ | refine blk_alloc ?_ _)); refine blk_far ?_ NB145_150.out _; (with_reducible repeat (first | refine blk_drewN ?_ _ | refine blk_drew ?_ | refine blk_alloc ?_ _)); exact BK145.out⟩
   have n1_ : Aside0 ((((w17.setCell ⟨gb150, 0, none⟩ (.int .u32 t147)).setCell ⟨gb150, 1, none⟩ (.int .u32 t148)).setCell ⟨gb150, 2, none⟩ (.int .i64 t149)).heap[gb150]? = some (.cells #[.int .u32 t147, .int .u32 t148, .int .i64 t149] 39 (0, 0))) := ⟨by (with_reducible repeat (first | refine blk_drewN ?_ _ | refine blk_drew ?_ | refine blk_alloc ?_ _)); refine blk_put (cs := #[.int .u32 t147, .int .u32 t148, .int .i64 0]) ?_ 2 _ (by first | rfl | (simp; done)); (with_reducible repeat (first | refine blk_drewN ?_ _ | refine blk_drew ?_ | refine blk_alloc ?_ _)); refine blk_put (cs := #[.int .u32 t147, .int .u32 0, .int .i64 0]) ?_ 1 _ (by first | rfl | (simp; done)); (with_reducible repeat (first | refine blk_drewN ?_ _ | refine blk_drew ?_ | refine blk_alloc ?_ _)); refine blk_put (cs := #[.int .u32 0, .int .u32 0, .int .i64 0]) ?_ 0 _ (by first | rfl | (simp; done)); (with_reducible repeat (first | refine blk_drewN ?_ _ | refine blk_drew ?_ | refine blk_alloc ?_ _)); exact BK150.out⟩
   have n2_ : Aside0 (Below w.heap.size w (((w17.setCell ⟨gb150, 0, none⟩ (.int .u32 t147)).setCell ⟨gb150, 1, none⟩ (.int .u32 t148)).setCell ⟨gb150, 2, none⟩ (.int .i64 t149))) := ⟨by repeat (first | (with_reducible first | exact HB.out | apply below_alloc | apply pw_below_drewN | apply below_drew1 | refine below_set ?_ GE145.out | refine below_set ?_ GE150.out) | exact HB.out)⟩
   (try clear BK145)
   (try clear BK150)
   (try clear HB)
   generalize (((w17.setCell ⟨gb150, 0, none⟩ (.int .u32 t147)).setCell ⟨gb150, 1, none⟩ (.int .u32 t148)).setCell ⟨gb150, 2, none⟩ (.int .i64 t149)) = w20 at n0_ n1_ n2_ ⊢
   have BK145 := n0_
   have BK150 := n1_
   have HB := n2_
   clear n0_ n1_ n2_
   have n0_ := Aside0.mk (blk_drew BK145.out)
   have n1_ := Aside0.mk (blk_drew BK150.out)
   have n2_ := Aside0.mk (below_drew1 HB.out)
   clear BK145
   clear BK150
   clear HB
   have BK145 := n0_
   have BK150 := n1_
   have HB := n2_
   clear n0_ n1_ n2_
   refine start_ (n := 6) (S := fun w' => w'.cell? ⟨gb150, 0, none⟩ = some (.int .u32 t147) ∧ w'.cell? ⟨gb150, 1, none⟩ = some (.int .u32 t148) ∧ w'.cell? ⟨gb150, 2, none⟩ = some (.int .i64 t149)) (ds := []) #[false, false, false, false, false, false] (by kernel_rfl) rfl rfl ⟨(blk_cell BK150.out 0).trans rfl, (blk_cell BK150.out 1).trans rfl, (blk_cell BK150.out 2).trans rfl⟩ (fun hHeld => ?_)
   generalize w20.drew = w21 at BK145 BK150 HB hHeld ⊢
   refine pure_ (i := 1) (N := some 32) (v := ?_) (a' := ?_) #[false, true, false, false, false, false] rfl rfl (by kernel_rfl) (fun _ _ _ h => h) (Or.inl ⟨by rfl, ?_⟩) ?_ ?_
   rotate_left
   ·intro w'
    go_simp
    with_reducible rfl
   rotate_left
   ·simp only [Act.put, List.setIfInBounds_toArray, List.set_cons_zero, List.set_cons_succ, i64_w, i32_w]
    rfl
   refine pure_ (i := 2) (N := some 33) (v := ?_) (a' := ?_) #[false, true, true, false, false, false] rfl rfl (by kernel_rfl) (fun _ _ _ h => h) (Or.inl ⟨by rfl, ?_⟩) ?_ ?_
   rotate_left
   ·intro w'
    go_simp
    with_reducible rfl
   rotate_left
   ·simp only [Act.put, List.setIfInBounds_toArray, List.set_cons_zero, List.set_cons_succ, i64_w, i32_w]
    rfl
   refine pure_ (i := 3) (N := some 34) (v := ?_) (a' := ?_) #[false, true, true, true, false, false] rfl rfl (by kernel_rfl) (fun _ _ _ h => h) (Or.inl ⟨by rfl, ?_⟩) ?_ ?_
   rotate_left
   ·intro w'
    go_simp
    with_reducible rfl
   rotate_left
   ·simp only [Act.put, List.setIfInBounds_toArray, List.set_cons_zero, List.set_cons_succ, i64_w, i32_w]
    rfl
   refine take_ (i := 0) (N := some 31) (v := ?_) (a' := ?_) #[true, true, true, true, false, false] rfl rfl (by kernel_rfl) (fun _ _ _ h => h) (Or.inl ⟨by rfl, ?_⟩) hHeld ?_ ?_
   rotate_left
   ·rintro w' ⟨s0, s1, s2⟩
    go_simp
    with_reducible rfl
   rotate_left
   ·simp only [Act.put, List.setIfInBounds_toArray, List.set_cons_zero, List.set_cons_succ, i64_w, i32_w]
    rfl
   refine one_ (i := 4) (N := some 35) #[true, true, true, true, true, false] rfl rfl (by kernel_rfl) (by decide) (fun K hK => ?_)
   refine goes_ Try.func91 (by kernel_rfl) rfl #[.int .u32 a2, .int .u32 a3, .int .i64 t146] (by rfl) rfl rfl (by (try simp only [List.map_toArray, List.map_cons, List.map_nil]); first | done | rfl | (simp only [List.length_drop, List.length_take]; rfl)) ?_
   with_reducible refine (cell_around.calls a2 a3 t146 t151 t152 t153 _ A13.out).mono ?_
   rintro e w22 ⟨rfl, hb⟩
   refine ⟨_, rfl, ?_⟩
   have n0_ := Aside0.mk (blk_below (g := gb145) (o := .cells #[.int .u32 0, .int .u32 0, .int .i64 0] 39 (0, 0)) (by (with_reducible repeat (first | refine blk_drewN ?_ _ | refine blk_drew ?_ | refine blk_alloc ?_ _)); exact BK145.out) hb)
   have n1_ := Aside0.mk (blk_below (g := gb150) (o := .cells #[.int .u32 t147, .int .u32 t148, .int .i64 t149] 39 (0, 0)) (by (with_reducible repeat (first | refine blk_drewN ?_ _ | refine blk_drew ?_ | refine blk_alloc ?_ _)); exact BK150.out) hb)
   have n2_ := Aside0.mk (below_step (by repeat (first | (with_reducible first | exact HB.out | apply below_alloc | apply pw_below_drewN | apply below_drew1 | refine below_set ?_ GE145.out | refine below_set ?_ GE150.out) | exact HB.out)) hb)
   clear BK145
   clear BK150
   clear HB
   have BK145 := n0_
   have BK150 := n1_
   have HB := n2_
   clear n0_ n1_ n2_
   (try clear hb)
   (try clear hb2)
   (try clear hk)
   (try clear hi)
   refine hK.out _ _ ⟨(blk_cell BK150.out 0).trans rfl, (blk_cell BK150.out 1).trans rfl, (blk_cell BK150.out 2).trans rfl⟩ (fun hHeld => ?_)
   clear hK K
   refine norm_ (a' := ?_) ?_ ?_
   rotate_left
   ·show Act.put _ (some 35) _ = _
    simp only [Act.put, List.setIfInBounds_toArray, List.set_cons_zero, List.set_cons_succ, i64_w, i32_w]
    rfl
   refine pure_ (i := 5) (N := some 36) (v := ?_) (a' := ?_) #[true, true, true, true, true, true] rfl rfl (by kernel_rfl) (fun _ _ _ h => h) (Or.inl ⟨by rfl, ?_⟩) ?_ ?_
   rotate_left
   ·intro w'
    go_simp
    with_reducible rfl
   rotate_left
   ·simp only [Act.put, List.setIfInBounds_toArray, List.set_cons_zero, List.set_cons_succ, i64_w, i32_w]
    rfl
   refine done_ (by kernel_rfl) ?_
   have hcz23_0 : w22.cell? ⟨gb145, 0, none⟩ = some (.int .u32 0) := (blk_cell BK145.out 0).trans rfl
   have hcz23_1 : w22.cell? ⟨gb145, 1, none⟩ = some (.int .u32 0) := (blk_cell BK145.out 1).trans rfl
   have hcz23_2 : w22.cell? ⟨gb145, 2, none⟩ = some (.int .i64 0) := (blk_cell BK145.out 2).trans rfl
   have hfz23_0 := blk_frozen BK145.out 0
   have hfz23_1 := blk_frozen BK145.out 1
   have hfz23_2 := blk_frozen BK145.out 2
   try go_wp2
   refine bodyPost_ret (results_ct rfl _ _ gb145 39 #[.int .u32 0, .int .u32 0, .int .i64 0] (0, 0) _ rfl (by (with_reducible repeat (first | refine blk_drewN ?_ _ | refine blk_drew ?_ | refine blk_alloc ?_ _)); refine blk_put (cs := #[.int .u32 0, .int .u32 0, .int .i64 0]) ?_ 2 _ (by first | rfl | (simp; done)); (with_reducible repeat (first | refine blk_drewN ?_ _ | refine blk_drew ?_ | refine blk_alloc ?_ _)); refine blk_put (cs := #[.int .u32 0, .int .u32 0, .int .i64 0]) ?_ 1 _ (by first | rfl | (simp; done)); (with_reducible repeat (first | refine blk_drewN ?_ _ | refine blk_drew ?_ | refine blk_alloc ?_ _)); refine blk_put (cs := #[.int .u32 0, .int .u32 0, .int .i64 0]) ?_ 0 _ (by first | rfl | (simp; done)); (with_reducible repeat (first | refine blk_drewN ?_ _ | refine blk_drew ?_ | refine blk_alloc ?_ _)); exact BK145.out) Try.underlying39 rfl (by kernel_rfl)) rfl ?_
   exact ⟨by first | rfl | (simp [errW_none, errW_some] <;> rfl) | (simp only [← hji5, ← hji6, ← hji7]; first | rfl | (simp [errW_none, errW_some] <;> rfl)) | (simp [*, errW_none, errW_some] <;> rfl), by repeat (first | (with_reducible first | exact HB.out | apply below_alloc | apply pw_below_drewN | apply below_drew1 | refine below_set ?_ GE145.out | refine below_set ?_ GE150.out) | exact HB.out)⟩
  ·rw [if_neg c14] at H
   have c14b0 : (!(t147 == t151) || (!(t148 == t152) || (!(t149 == t153)))) = false := by simpa using c14
   clear c14
   simp only [Option.some.injEq, Prod.mk.injEq] at H
   obtain ⟨rfl, rfl, rfl, rfl⟩ := H
   go_enter Try.func75, Try.ntmps75
   try go_wp2_with (first | ((with_reducible refine gate_dst (N := 8) rfl ?_); refine box_event ?hg (N := 8) ?hd (cs := #[.int .u32 0, .int .u32 0, .int .i64 0]) (t := 39) ?hr ?_; (case hd => rfl); (case hg => rfl); (case hr => first | (go_simp; done) | (go_simp; rfl)); intro gb145 hg w24 hbox hb; have n0_ := Aside0.mk (below_step (by repeat (first | (with_reducible first | exact HB.out | apply below_alloc | apply pw_below_drewN | apply below_drew1) | exact HB.out)) hb); have n1_ := Aside0.mk (hbox); have n2_ := Aside0.mk ((by rw [hg]; exact (below_size (by repeat (first | (with_reducible first | exact HB.out | apply below_alloc | apply pw_below_drewN | apply below_drew1) | exact HB.out))) : w.heap.size ≤ gb145)); have n3_ := Aside0.mk ((by rw [hg]; exact (below_size (by repeat (first | (with_reducible first | exact HB.out | apply below_alloc | apply pw_below_drewN | apply below_drew1) | exact HB.out))) : w.heap.size ≤ gb145)); clear HB; have HB := n0_; have BK145 := n1_; have GW145 := n2_; have GE145 := n3_; clear n0_ n1_ n2_ n3_; clear hb hbox hg) | ((with_reducible refine gate_callee (f := 89) rfl ?_); refine goesL_ (some 26) rfl rfl Try.func89 (by kernel_rfl) rfl #[.int .u32 (Go.bits .or .u32 (Go.bits .xor .u32 a0 a2) (Go.bits .xor .u32 a1 a3))] rfl (by (try simp only [List.map_toArray, List.map_cons, List.map_nil]); first | done | rfl | (simp only [List.length_drop, List.length_take]; rfl)) ?_; (with_reducible refine (bits_Len32.calls (Go.bits .or .u32 (Go.bits .xor .u32 a0 a2) (Go.bits .xor .u32 a1 a3)) t146 _ A11.out).mono ?_); rintro e w' ⟨rfl, ⟨nd, rfl⟩⟩; refine ⟨_, rfl, ?_⟩; (try (rw [drewN_self w24]; generalize hq_ : World.drewN w24 _ = w24; have n0_ : Aside0 (w24.heap[gb145]? = some (.cells #[.int .u32 0, .int .u32 0, .int .i64 0] 39 (0, 0))) := ⟨by rw [← hq_]; exact (by (with_reducible repeat (first | refine blk_drewN ?_ _ | refine blk_drew ?_ | refine blk_alloc ?_ _)); exact BK145.out)⟩; have n1_ : Aside0 (Below w.heap.size w w24) := ⟨by rw [← hq_]; exact (by repeat (first | (with_reducible first | exact HB.out | apply below_alloc | apply pw_below_drewN | apply below_drew1 | refine below_set ?_ GE145.out) | exact HB.out))⟩; clear BK145 HB hq_; have BK145 := n0_; have HB := n1_; clear n0_ n1_))) | ((with_reducible refine gate_callee (f := 91) rfl ?_); refine goesL_ (some 30) rfl rfl Try.func91 (by kernel_rfl) rfl #[.int .u32 a0, .int .u32 a1, .int .i64 t146] rfl (by (try simp only [List.map_toArray, List.map_cons, List.map_nil]); first | done | rfl | (simp only [List.length_drop, List.length_take]; rfl)) ?_; (with_reducible refine (cell_around.calls a0 a1 t146 t147 t148 t149 _ A12.out).mono ?_); rintro e w25 ⟨rfl, hb⟩; refine ⟨_, rfl, ?_⟩; have n0_ := Aside0.mk (blk_below (g := gb145) (o := .cells #[.int .u32 0, .int .u32 0, .int .i64 0] 39 (0, 0)) (by (with_reducible repeat (first | refine blk_drewN ?_ _ | refine blk_drew ?_ | refine blk_alloc ?_ _)); exact BK145.out) hb); have n1_ := Aside0.mk (below_step (by repeat (first | (with_reducible first | exact HB.out | apply below_alloc | apply pw_below_drewN | apply below_drew1 | refine below_set ?_ GE145.out) | exact HB.out)) hb); clear BK145; clear HB; have BK145 := n0_; have HB := n1_; clear n0_ n1_; (try clear hb); (try clear hb2); (try clear hk); (try clear hi)) | ((with_reducible refine gate_dst (N := 11) rfl ?_); refine box_event ?hg (N := 11) ?hd (cs := #[.int .u32 0, .int .u32 0, .int .i64 0]) (t := 39) ?hr ?_; (case hd => rfl); (case hg => rfl); (case hr => first | (go_simp; done) | (go_simp; rfl)); intro gb150 hg w26 hbox hb; have n0_ := Aside0.mk (blk_below (g := gb145) (o := .cells #[.int .u32 0, .int .u32 0, .int .i64 0] 39 (0, 0)) (by (with_reducible repeat (first | refine blk_drewN ?_ _ | refine blk_drew ?_ | refine blk_alloc ?_ _)); exact BK145.out) hb); have n1_ := Aside0.mk (below_step (by repeat (first | (with_reducible first | exact HB.out | apply below_alloc | apply pw_below_drewN | apply below_drew1 | refine below_set ?_ GE145.out) | exact HB.out)) hb); have n2_ := Aside0.mk (hbox); have n3_ := Aside0.mk ((by rw [hg]; exact (below_size (by repeat (first | (with_reducible first | exact HB.out | apply below_alloc | apply pw_below_drewN | apply below_drew1 | refine below_set ?_ GE145.out) | exact HB.out))) : w.heap.size ≤ gb150)); have n4_ := Aside0.mk ((by rw [hg]; exact (below_size (by repeat (first | (with_reducible first | exact HB.out | apply below_alloc | apply pw_below_drewN | apply below_drew1 | refine below_set ?_ GE145.out) | exact HB.out))) : w.heap.size ≤ gb150)); have n5_ := Aside0.mk ((by rw [hg]; exact Nat.ne_of_lt (blk_lt (g := gb145) (o := .cells #[.int .u32 0, .int .u32 0, .int .i64 0] 39 (0, 0)) (by (with_reducible repeat (first | refine blk_drewN ?_ _ | refine blk_drew ?_ | refine blk_alloc ?_ _)); exact BK145.out)) : gb145 ≠ gb150)); have n6_ := Aside0.mk ((by rw [hg]; exact Nat.ne_of_gt (blk_lt (g := gb145) (o := .cells #[.int .u32 0, .int .u32 0, .int .i64 0] 39 (0, 0)) (by (with_reducible repeat (first | refine blk_drewN ?_ _ | refine blk_drew ?_ | refine blk_alloc ?_ _)); exact BK145.out)) : gb150 ≠ gb145)); clear BK145; clear HB; have BK145 := n0_; have HB := n1_; have BK150 := n2_; have GW150 := n3_; have GE150 := n4_; have NB145_150 := n5_; have NB150_145 := n6_; clear n0_ n1_ n2_ n3_ n4_ n5_ n6_; clear hb hbox hg; have hnb27 := NB150_145.out; have hnc27 := NB145_150.out; have hcz28_0 : w26.cell? ⟨gb150, 0, none⟩ = some (.int .u32 0) := (blk_cell BK150.out 0).trans rfl; have hcz28_1 : w26.cell? ⟨gb150, 1, none⟩ = some (.int .u32 0) := (blk_cell BK150.out 1).trans rfl; have hcz28_2 : w26.cell? ⟨gb150, 2, none⟩ = some (.int .i64 0) := (blk_cell BK150.out 2).trans rfl; have hfz28_0 := blk_frozen BK150.out 0; have hfz28_1 := blk_frozen BK150.out 1; have hfz28_2 := blk_frozen BK150.out 2))
   have n0_ : Aside0 ((((w26.setCell ⟨gb150, 0, none⟩ (.int .u32 t147)).setCell ⟨gb150, 1, none⟩ (.int .u32 t148)).setCell ⟨gb150, 2, none⟩ (.int .i64 t149)).heap[gb145]? = some (.cells #[.int .u32 0, .int .u32 0, .int .i64 0] 39 (0, 0))) := ⟨by (with_reducible repeat (first | refine blk_drewN ?_ _ | refine blk_drew ?_ | refine blk_alloc ?_ _)); refine blk_far ?_ NB145_150.out _; (with_reducible repeat (first | refine blk_drewN ?_ _ | refine blk_drew ?_ | refine blk_alloc ?_ _)); refine blk_far ?_ NB145_150.out _; (with_reducible repeat (first | refine blk_drewN ?_ _ | refine blk_drew ?_ | refine blk_alloc ?_ _)); refine blk_far ?_ NB145_150.out _; (with_reducible repeat (first | refine blk_drewN ?_ _ | refine blk_drew ?_ | refine blk_alloc ?_ _)); exact BK145.out⟩
   have n1_ : Aside0 ((((w26.setCell ⟨gb150, 0, none⟩ (.int .u32 t147)).setCell ⟨gb150, 1, none⟩ (.int .u32 t148)).setCell ⟨gb150, 2, none⟩ (.int .i64 t149)).heap[gb150]? = some (.cells #[.int .u32 t147, .int .u32 t148, .int .i64 t149] 39 (0, 0))) := ⟨by (with_reducible repeat (first | refine blk_drewN ?_ _ | refine blk_drew ?_ | refine blk_alloc ?_ _)); refine blk_put (cs := #[.int .u32 t147, .int .u32 t148, .int .i64 0]) ?_ 2 _ (by first | rfl | (simp; done)); (with_reducible repeat (first | refine blk_drewN ?_ _ | refine blk_drew ?_ | refine blk_alloc ?_ _)); refine blk_put (cs := #[.int .u32 t147, .int .u32 0, .int .i64 0]) ?_ 1 _ (by first | rfl | (simp; done)); (with_reducible repeat (first | refine blk_drewN ?_ _ | refine blk_drew ?_ | refine blk_alloc ?_ _)); refine blk_put (cs := #[.int .u32 0, .int .u32 0, .int .i64 0]) ?_ 0 _ (by first | rfl | (simp; done)); (with_reducible repeat (first | refine blk_drewN ?_ _ | refine blk_drew ?_ | refine blk_alloc ?_ _)); exact BK150.out⟩
   have n2_ : Aside0 (Below w.heap.size w (((w26.setCell ⟨gb150, 0, none⟩ (.int .u32 t147)).setCell ⟨gb150, 1, none⟩ (.int .u32 t148)).setCell ⟨gb150, 2, none⟩ (.int .i64 t149))) := ⟨by repeat (first | (with_reducible first | exact HB.out | apply below_alloc | apply pw_below_drewN | apply below_drew1 | refine below_set ?_ GE145.out | refine below_set ?_ GE150.out) | exact HB.out)⟩
   (try clear BK145)
   (try clear BK150)
   (try clear HB)
   generalize (((w26.setCell ⟨gb150, 0, none⟩ (.int .u32 t147)).setCell ⟨gb150, 1, none⟩ (.int .u32 t148)).setCell ⟨gb150, 2, none⟩ (.int .i64 t149)) = w29 at n0_ n1_ n2_ ⊢
   have BK145 := n0_
   have BK150 := n1_
   have HB := n2_
   clear n0_ n1_ n2_
   have n0_ := Aside0.mk (blk_drew BK145.out)
   have n1_ := Aside0.mk (blk_drew BK150.out)
   have n2_ := Aside0.mk (below_drew1 HB.out)
   clear BK145
   clear BK150
   clear HB
   have BK145 := n0_
   have BK150 := n1_
   have HB := n2_
   clear n0_ n1_ n2_
   refine start_ (n := 6) (S := fun w' => w'.cell? ⟨gb150, 0, none⟩ = some (.int .u32 t147) ∧ w'.cell? ⟨gb150, 1, none⟩ = some (.int .u32 t148) ∧ w'.cell? ⟨gb150, 2, none⟩ = some (.int .i64 t149)) (ds := []) #[false, false, false, false, false, false] (by kernel_rfl) rfl rfl ⟨(blk_cell BK150.out 0).trans rfl, (blk_cell BK150.out 1).trans rfl, (blk_cell BK150.out 2).trans rfl⟩ (fun hHeld => ?_)
   generalize w29.drew = w30 at BK145 BK150 HB hHeld ⊢
   refine pure_ (i := 1) (N := some 32) (v := ?_) (a' := ?_) #[false, true, false, false, false, false] rfl rfl (by kernel_rfl) (fun _ _ _ h => h) (Or.inl ⟨by rfl, ?_⟩) ?_ ?_
   rotate_left
   ·intro w'
    go_simp
    with_reducible rfl
   rotate_left
   ·simp only [Act.put, List.setIfInBounds_toArray, List.set_cons_zero, List.set_cons_succ, i64_w, i32_w]
    rfl
   refine pure_ (i := 2) (N := some 33) (v := ?_) (a' := ?_) #[false, true, true, false, false, false] rfl rfl (by kernel_rfl) (fun _ _ _ h => h) (Or.inl ⟨by rfl, ?_⟩) ?_ ?_
   rotate_left
   ·intro w'
    go_simp
    with_reducible rfl
   rotate_left
   ·simp only [Act.put, List.setIfInBounds_toArray, List.set_cons_zero, List.set_cons_succ, i64_w, i32_w]
    rfl
   refine pure_ (i := 3) (N := some 34) (v := ?_) (a' := ?_) #[false, true, true, true, false, false] rfl rfl (by kernel_rfl) (fun _ _ _ h => h) (Or.inl ⟨by rfl, ?_⟩) ?_ ?_
   rotate_left
   ·intro w'
    go_simp
    with_reducible rfl
   rotate_left
   ·simp only [Act.put, List.setIfInBounds_toArray, List.set_cons_zero, List.set_cons_succ, i64_w, i32_w]
    rfl
   refine take_ (i := 0) (N := some 31) (v := ?_) (a' := ?_) #[true, true, true, true, false, false] rfl rfl (by kernel_rfl) (fun _ _ _ h => h) (Or.inl ⟨by rfl, ?_⟩) hHeld ?_ ?_
   rotate_left
   ·rintro w' ⟨s0, s1, s2⟩
    go_simp
    with_reducible rfl
   rotate_left
   ·simp only [Act.put, List.setIfInBounds_toArray, List.set_cons_zero, List.set_cons_succ, i64_w, i32_w]
    rfl
   refine one_ (i := 4) (N := some 35) #[true, true, true, true, true, false] rfl rfl (by kernel_rfl) (by decide) (fun K hK => ?_)
   refine goes_ Try.func91 (by kernel_rfl) rfl #[.int .u32 a2, .int .u32 a3, .int .i64 t146] (by rfl) rfl rfl (by (try simp only [List.map_toArray, List.map_cons, List.map_nil]); first | done | rfl | (simp only [List.length_drop, List.length_take]; rfl)) ?_
   with_reducible refine (cell_around.calls a2 a3 t146 t151 t152 t153 _ A13.out).mono ?_
   rintro e w31 ⟨rfl, hb⟩
   refine ⟨_, rfl, ?_⟩
   have n0_ := Aside0.mk (blk_below (g := gb145) (o := .cells #[.int .u32 0, .int .u32 0, .int .i64 0] 39 (0, 0)) (by (with_reducible repeat (first | refine blk_drewN ?_ _ | refine blk_drew ?_ | refine blk_alloc ?_ _)); exact BK145.out) hb)
   have n1_ := Aside0.mk (blk_below (g := gb150) (o := .cells #[.int .u32 t147, .int .u32 t148, .int .i64 t149] 39 (0, 0)) (by (with_reducible repeat (first | refine blk_drewN ?_ _ | refine blk_drew ?_ | refine blk_alloc ?_ _)); exact BK150.out) hb)
   have n2_ := Aside0.mk (below_step (by repeat (first | (with_reducible first | exact HB.out | apply below_alloc | apply pw_below_drewN | apply below_drew1 | refine below_set ?_ GE145.out | refine below_set ?_ GE150.out) | exact HB.out)) hb)
   clear BK145
   clear BK150
   clear HB
   have BK145 := n0_
   have BK150 := n1_
   have HB := n2_
   clear n0_ n1_ n2_
   (try clear hb)
   (try clear hb2)
   (try clear hk)
   (try clear hi)
   refine hK.out _ _ ⟨(blk_cell BK150.out 0).trans rfl, (blk_cell BK150.out 1).trans rfl, (blk_cell BK150.out 2).trans rfl⟩ (fun hHeld => ?_)
   clear hK K
   refine norm_ (a' := ?_) ?_ ?_
   rotate_left
   ·show Act.put _ (some 35) _ = _
    simp only [Act.put, List.setIfInBounds_toArray, List.set_cons_zero, List.set_cons_succ, i64_w, i32_w]
    rfl
   refine pure_ (i := 5) (N := some 36) (v := ?_) (a' := ?_) #[true, true, true, true, true, true] rfl rfl (by kernel_rfl) (fun _ _ _ h => h) (Or.inl ⟨by rfl, ?_⟩) ?_ ?_
   rotate_left
   ·intro w'
    go_simp
    with_reducible rfl
   rotate_left
   ·simp only [Act.put, List.setIfInBounds_toArray, List.set_cons_zero, List.set_cons_succ, i64_w, i32_w]
    rfl
   refine done_ (by kernel_rfl) ?_
   have hcz32_0 : w31.cell? ⟨gb150, 0, none⟩ = some (.int .u32 t147) := (blk_cell BK150.out 0).trans rfl
   have hcz32_1 : w31.cell? ⟨gb150, 1, none⟩ = some (.int .u32 t148) := (blk_cell BK150.out 1).trans rfl
   have hcz32_2 : w31.cell? ⟨gb150, 2, none⟩ = some (.int .i64 t149) := (blk_cell BK150.out 2).trans rfl
   have hfz32_0 := blk_frozen BK150.out 0
   have hfz32_1 := blk_frozen BK150.out 1
   have hfz32_2 := blk_frozen BK150.out 2
   have hcz33_0 : w31.cell? ⟨gb145, 0, none⟩ = some (.int .u32 0) := (blk_cell BK145.out 0).trans rfl
   have hcz33_1 : w31.cell? ⟨gb145, 1, none⟩ = some (.int .u32 0) := (blk_cell BK145.out 1).trans rfl
   have hcz33_2 : w31.cell? ⟨gb145, 2, none⟩ = some (.int .i64 0) := (blk_cell BK145.out 2).trans rfl
   have hfz33_0 := blk_frozen BK145.out 0
   have hfz33_1 := blk_frozen BK145.out 1
   have hfz33_2 := blk_frozen BK145.out 2
   try go_wp2
   refine bodyPost_ret (results_ct rfl _ _ gb145 39 #[.int .u32 t147, .int .u32 t148, .int .i64 t149] (0, 0) _ rfl (by (with_reducible repeat (first | refine blk_drewN ?_ _ | refine blk_drew ?_ | refine blk_alloc ?_ _)); refine blk_put (cs := #[.int .u32 t147, .int .u32 t148, .int .i64 0]) ?_ 2 _ (by first | rfl | (simp; done)); (with_reducible repeat (first | refine blk_drewN ?_ _ | refine blk_drew ?_ | refine blk_alloc ?_ _)); refine blk_put (cs := #[.int .u32 t147, .int .u32 0, .int .i64 0]) ?_ 1 _ (by first | rfl | (simp; done)); (with_reducible repeat (first | refine blk_drewN ?_ _ | refine blk_drew ?_ | refine blk_alloc ?_ _)); refine blk_put (cs := #[.int .u32 0, .int .u32 0, .int .i64 0]) ?_ 0 _ (by first | rfl | (simp; done)); (with_reducible repeat (first | refine blk_drewN ?_ _ | refine blk_drew ?_ | refine blk_alloc ?_ _)); exact BK145.out) Try.underlying39 rfl (by kernel_rfl)) rfl ?_
   exact ⟨by first | rfl | (simp [errW_none, errW_some] <;> rfl) | (simp only [← hji5, ← hji6, ← hji7]; first | rfl | (simp [errW_none, errW_some] <;> rfl)) | (simp [*, errW_none, errW_some] <;> rfl), by repeat (first | (with_reducible first | exact HB.out | apply below_alloc | apply pw_below_drewN | apply below_drew1 | refine below_set ?_ GE145.out | refine below_set ?_ GE150.out) | exact HB.out)⟩

/-! ### quad_around: function 57 -/
def quad_around.l0 : Nat → Int → Int → Int → Int → List (S54) → Int → Int → Option (Int × Int × Int)
 | 0, _, _, _, _, _, _, _ => none
 | k + 1, x3, x4, x5, x6, x27, x28, x29 => if x29 < x28 then (if 0 ≤ x29 then (if x29 < (x27.length : Int) then (quad_around.l0 k (mn x3 ((rd_T54 x27 x29).f1)) (mn x4 ((rd_T54 x27 x29).f2)) (mx x5 ((rd_T54 x27 x29).f1)) (mx x6 ((rd_T54 x27 x29).f2)) x27 x28 (wrap64 (x29 + 1))) else (none)) else (none)) else ((cell_Least.f x3 x4 x5 x6).bind fun bt161 => (some (bt161.1, bt161.2.1, bt161.2.2.1)))
def quad_around.f (k : Nat) (l0 : List (S54)) : Option (Int × Int × Int) := if 0 < (l0.length : Int) then (quad_around.l0 k ((rd_T54 l0 0).f1) ((rd_T54 l0 0).f2) ((rd_T54 l0 0).f1) ((rd_T54 l0 0).f2) l0 (l0.length : Int) 0) else (none)
theorem quad_around.mono_l : ∀ k, (∀ y0 y1 y2 y3 y4 y5 y6, LeO (quad_around.l0 k y0 y1 y2 y3 y4 y5 y6) (quad_around.l0 (k + 1) y0 y1 y2 y3 y4 y5 y6))
 | 0 => fun _ _ _ _ _ _ _ r h => by simp [quad_around.l0] at h
 | k + 1 => by
  have ih0 := quad_around.mono_l k
  ·intro y0 y1 y2 y3 y4 y5 y6
   unfold quad_around.l0
   repeat' first
   | (with_reducible exact ih0 _ _ _ _ _ _ _)
   | (with_reducible exact LeO.refl _)
   | (with_reducible exact LeO.none _)
   | (with_reducible refine LeO.ite ?_ ?_)
   | (with_reducible refine LeO.bind ?_ (fun _ => ?_))
   | exact ih0 _ _ _ _ _ _ _
   | exact LeO.none _
   | refine LeO.ite ?_ ?_
   | refine LeO.bind ?_ (fun _ => ?_)
theorem quad_around.mono : ∀ a0 k, LeO (quad_around.f k a0) (quad_around.f (k + 1) a0) := by
 intro a0 k
 have ih0 := quad_around.mono_l k
 unfold quad_around.f
 repeat' first
   | (with_reducible exact ih0 _ _ _ _ _ _ _)
   | (with_reducible exact LeO.refl _)
   | (with_reducible exact LeO.none _)
   | (with_reducible refine LeO.ite ?_ ?_)
   | (with_reducible refine LeO.bind ?_ (fun _ => ?_))
   | exact ih0 _ _ _ _ _ _ _
   | exact LeO.none _
   | refine LeO.ite ?_ ?_
   | refine LeO.bind ?_ (fun _ => ?_)
set_option maxHeartbeats 8000000 in
set_option maxRecDepth 100000 in
theorem quad_around.calls (k : Nat) (A0 : Option Addr) (c0 : Nat) (l0 : List (S54)) (r1 : Int) (r2 : Int) (r3 : Int) (w : World) (hr0 : Kd.C k54 w A0 l0.length l0) (hc0 : l0.length ≤ c0) (h : quad_around.f k l0 = some (r1, r2, r3)) :
  Calls Try.prog 57 #[.slice A0 l0.length c0] w fun e w' => e = .returned (.agg #[.int .u32 r1, .int .u32 r2, .int .i64 r3]) ∧ Below w.heap.size w w' := by
 have hu39 := Try.underlying39
 have hu54 := Try.underlying54
 have HR0 := Aside0.mk hr0
 have HC0 := Aside0.mk hc0
 clear hr0 hc0
 have HB := Aside0.mk (Below.refl w.heap.size w)
 have H : (if 0 < (l0.length : Int) then (quad_around.l0 k ((rd_T54 l0 0).f1) ((rd_T54 l0 0).f2) ((rd_T54 l0 0).f1) ((rd_T54 l0 0).f2) l0 (l0.length : Int) 0) else (none)) = some (r1, r2, r3) := h
 clear h
 by_cases c2 : 0 < (l0.length : Int)
 ·rw [if_pos c2] at H
  have c2b0 : decide (0 < (l0.length : Int)) = true := decide_eq_true c2
  have c2b1 : decide (0 < l0.length) = true := decide_eq_true (by omega)
  clear c2
  have H' := Aside0.mk H
  clear H
  go_enter Try.func57, Try.ntmps57
  go_wp2_with (first | ((with_reducible refine gate_dst (N := 2) rfl ?_); refine box_event ?hg (N := 2) ?hd (cs := #[.int .u32 0, .int .u32 0, .int .i64 0]) (t := 39) ?hr ?_; (case hd => rfl); (case hg => rfl); (case hr => first | (go_simp; done) | (go_simp; rfl)); intro gb154 hg w3 hbox hb; have n0_ := Aside0.mk (below_step (by repeat (first | (with_reducible first | exact HB.out | apply below_alloc | apply pw_below_drewN | apply below_drew1) | exact HB.out)) hb); have n1_ := Aside0.mk (hbox); have n2_ := Aside0.mk ((by rw [hg]; exact (below_size (by repeat (first | (with_reducible first | exact HB.out | apply below_alloc | apply pw_below_drewN | apply below_drew1) | exact HB.out))) : w.heap.size ≤ gb154)); have n3_ := Aside0.mk ((by rw [hg]; exact (below_size (by repeat (first | (with_reducible first | exact HB.out | apply below_alloc | apply pw_below_drewN | apply below_drew1) | exact HB.out))) : w.heap.size ≤ gb154)); clear HB; have HB := n0_; have BK154 := n1_; have GW154 := n2_; have GE154 := n3_; clear n0_ n1_ n2_ n3_; clear hb hbox hg; have p155 : 0 ≤ (0 : Int) := (by omega); have q155 : 0 < (l0.length : Int) := of_decide_eq_true (by first | (with_reducible assumption) | assumption); obtain ⟨ad155, e155, hx155_0, hx155_1, hx155_2, hx155_3⟩ := at_T54 HR0.out 0 p155 q155; cases e155; have qi155 : (0 < l0.length) = True := eq_true (by omega); (try rw [show ((0 : Int)).toNat = 0 from rfl] at hx155_0); (try rw [show 0 * 4 = 0 from rfl] at hx155_0); (try rw [Addr.add_zero'] at hx155_0); (try rw [show ((0 : Int)).toNat = 0 from rfl] at hx155_1); (try rw [show 0 * 4 = 0 from rfl] at hx155_1); (try rw [Addr.add_zero'] at hx155_1); (try rw [show ((0 : Int)).toNat = 0 from rfl] at hx155_2); (try rw [show 0 * 4 = 0 from rfl] at hx155_2); (try rw [Addr.add_zero'] at hx155_2); (try rw [show ((0 : Int)).toNat = 0 from rfl] at hx155_3); (try rw [show 0 * 4 = 0 from rfl] at hx155_3); (try rw [Addr.add_zero'] at hx155_3); replace hx155_0 := (HB.out.cell (World.block_lt_of_cell? w _ hx155_0)).trans hx155_0; replace hx155_1 := (HB.out.cell (World.block_lt_of_cell? w _ hx155_1)).trans hx155_1; replace hx155_2 := (HB.out.cell (World.block_lt_of_cell? w _ hx155_2)).trans hx155_2; replace hx155_3 := (HB.out.cell (World.block_lt_of_cell? w _ hx155_3)).trans hx155_3; replace p155 := eq_true p155; replace q155 := eq_true q155; have p156 : 0 ≤ (0 : Int) := (by omega); have q156 : 0 < (l0.length : Int) := of_decide_eq_true (by first | (with_reducible assumption) | assumption); obtain ⟨ad156, e156, hx156_0, hx156_1, hx156_2, hx156_3⟩ := at_T54 HR0.out 0 p156 q156; obtain rfl : ad155 = ad156 := (by injection e156); have qi156 : (0 < l0.length) = True := eq_true (by omega); (try rw [show ((0 : Int)).toNat = 0 from rfl] at hx156_0); (try rw [show 0 * 4 = 0 from rfl] at hx156_0); (try rw [Addr.add_zero'] at hx156_0); (try rw [show ((0 : Int)).toNat = 0 from rfl] at hx156_1); (try rw [show 0 * 4 = 0 from rfl] at hx156_1); (try rw [Addr.add_zero'] at hx156_1); (try rw [show ((0 : Int)).toNat = 0 from rfl] at hx156_2); (try rw [show 0 * 4 = 0 from rfl] at hx156_2); (try rw [Addr.add_zero'] at hx156_2); (try rw [show ((0 : Int)).toNat = 0 from rfl] at hx156_3); (try rw [show 0 * 4 = 0 from rfl] at hx156_3); (try rw [Addr.add_zero'] at hx156_3); replace hx156_0 := (HB.out.cell (World.block_lt_of_cell? w _ hx156_0)).trans hx156_0; replace hx156_1 := (HB.out.cell (World.block_lt_of_cell? w _ hx156_1)).trans hx156_1; replace hx156_2 := (HB.out.cell (World.block_lt_of_cell? w _ hx156_2)).trans hx156_2; replace hx156_3 := (HB.out.cell (World.block_lt_of_cell? w _ hx156_3)).trans hx156_3; replace p156 := eq_true p156; replace q156 := eq_true q156; have p157 : 0 ≤ (0 : Int) := (by omega); have q157 : 0 < (l0.length : Int) := of_decide_eq_true (by first | (with_reducible assumption) | assumption); obtain ⟨ad157, e157, hx157_0, hx157_1, hx157_2, hx157_3⟩ := at_T54 HR0.out 0 p157 q157; obtain rfl : ad155 = ad157 := (by injection e157); have qi157 : (0 < l0.length) = True := eq_true (by omega); (try rw [show ((0 : Int)).toNat = 0 from rfl] at hx157_0); (try rw [show 0 * 4 = 0 from rfl] at hx157_0); (try rw [Addr.add_zero'] at hx157_0); (try rw [show ((0 : Int)).toNat = 0 from rfl] at hx157_1); (try rw [show 0 * 4 = 0 from rfl] at hx157_1); (try rw [Addr.add_zero'] at hx157_1); (try rw [show ((0 : Int)).toNat = 0 from rfl] at hx157_2); (try rw [show 0 * 4 = 0 from rfl] at hx157_2); (try rw [Addr.add_zero'] at hx157_2); (try rw [show ((0 : Int)).toNat = 0 from rfl] at hx157_3); (try rw [show 0 * 4 = 0 from rfl] at hx157_3); (try rw [Addr.add_zero'] at hx157_3); replace hx157_0 := (HB.out.cell (World.block_lt_of_cell? w _ hx157_0)).trans hx157_0; replace hx157_1 := (HB.out.cell (World.block_lt_of_cell? w _ hx157_1)).trans hx157_1; replace hx157_2 := (HB.out.cell (World.block_lt_of_cell? w _ hx157_2)).trans hx157_2; replace hx157_3 := (HB.out.cell (World.block_lt_of_cell? w _ hx157_3)).trans hx157_3; replace p157 := eq_true p157; replace q157 := eq_true q157; have p158 : 0 ≤ (0 : Int) := (by omega); have q158 : 0 < (l0.length : Int) := of_decide_eq_true (by first | (with_reducible assumption) | assumption); obtain ⟨ad158, e158, hx158_0, hx158_1, hx158_2, hx158_3⟩ := at_T54 HR0.out 0 p158 q158; obtain rfl : ad155 = ad158 := (by injection e158); have qi158 : (0 < l0.length) = True := eq_true (by omega); (try rw [show ((0 : Int)).toNat = 0 from rfl] at hx158_0); (try rw [show 0 * 4 = 0 from rfl] at hx158_0); (try rw [Addr.add_zero'] at hx158_0); (try rw [show ((0 : Int)).toNat = 0 from rfl] at hx158_1); (try rw [show 0 * 4 = 0 from rfl] at hx158_1); (try rw [Addr.add_zero'] at hx158_1); (try rw [show ((0 : Int)).toNat = 0 from rfl] at hx158_2); (try rw [show 0 * 4 = 0 from rfl] at hx158_2); (try rw [Addr.add_zero'] at hx158_2); (try rw [show ((0 : Int)).toNat = 0 from rfl] at hx158_3); (try rw [show 0 * 4 = 0 from rfl] at hx158_3); (try rw [Addr.add_zero'] at hx158_3); replace hx158_0 := (HB.out.cell (World.block_lt_of_cell? w _ hx158_0)).trans hx158_0; replace hx158_1 := (HB.out.cell (World.block_lt_of_cell? w _ hx158_1)).trans hx158_1; replace hx158_2 := (HB.out.cell (World.block_lt_of_cell? w _ hx158_2)).trans hx158_2; replace hx158_3 := (HB.out.cell (World.block_lt_of_cell? w _ hx158_3)).trans hx158_3; replace p158 := eq_true p158; replace q158 := eq_true q158))
  repeat (go_quiet (first | ((with_reducible refine gate_dst (N := 2) rfl ?_); refine box_event ?hg (N := 2) ?hd (cs := #[.int .u32 0, .int .u32 0, .int .i64 0]) (t := 39) ?hr ?_; (case hd => rfl); (case hg => rfl); (case hr => first | (go_simp; done) | (go_simp; rfl)); intro gb154 hg w3 hbox hb; have n0_ := Aside0.mk (below_step (by repeat (first | (with_reducible first | exact HB.out | apply below_alloc | apply pw_below_drewN | apply below_drew1) | exact HB.out)) hb); have n1_ := Aside0.mk (hbox); have n2_ := Aside0.mk ((by rw [hg]; exact (below_size (by repeat (first | (with_reducible first | exact HB.out | apply below_alloc | apply pw_below_drewN | apply below_drew1) | exact HB.out))) : w.heap.size ≤ gb154)); have n3_ := Aside0.mk ((by rw [hg]; exact (below_size (by repeat (first | (with_reducible first | exact HB.out | apply below_alloc | apply pw_below_drewN | apply below_drew1) | exact HB.out))) : w.heap.size ≤ gb154)); clear HB; have HB := n0_; have BK154 := n1_; have GW154 := n2_; have GE154 := n3_; clear n0_ n1_ n2_ n3_; clear hb hbox hg; have p155 : 0 ≤ (0 : Int) := (by omega); have q155 : 0 < (l0.length : Int) := of_decide_eq_true (by first | (with_reducible assumption) | assumption); obtain ⟨ad155, e155, hx155_0, hx155_1, hx155_2, hx155_3⟩ := at_T54 HR0.out 0 p155 q155; cases e155; have qi155 : (0 < l0.length) = True := eq_true (by omega); (try rw [show ((0 : Int)).toNat = 0 from rfl] at hx155_0); (try rw [show 0 * 4 = 0 from rfl] at hx155_0); (try rw [Addr.add_zero'] at hx155_0); (try rw [show ((0 : Int)).toNat = 0 from rfl] at hx155_1); (try rw [show 0 * 4 = 0 from rfl] at hx155_1); (try rw [Addr.add_zero'] at hx155_1); (try rw [show ((0 : Int)).toNat = 0 from rfl] at hx155_2); (try rw [show 0 * 4 = 0 from rfl] at hx155_2); (try rw [Addr.add_zero'] at hx155_2); (try rw [show ((0 : Int)).toNat = 0 from rfl] at hx155_3); (try rw [show 0 * 4 = 0 from rfl] at hx155_3); (try rw [Addr.add_zero'] at hx155_3); replace hx155_0 := (HB.out.cell (World.block_lt_of_cell? w _ hx155_0)).trans hx155_0; replace hx155_1 := (HB.out.cell (World.block_lt_of_cell? w _ hx155_1)).trans hx155_1; replace hx155_2 := (HB.out.cell (World.block_lt_of_cell? w _ hx155_2)).trans hx155_2; replace hx155_3 := (HB.out.cell (World.block_lt_of_cell? w _ hx155_3)).trans hx155_3; replace p155 := eq_true p155; replace q155 := eq_true q155; have p156 : 0 ≤ (0 : Int) := (by omega); have q156 : 0 < (l0.length : Int) := of_decide_eq_true (by first | (with_reducible assumption) | assumption); obtain ⟨ad156, e156, hx156_0, hx156_1, hx156_2, hx156_3⟩ := at_T54 HR0.out 0 p156 q156; obtain rfl : ad155 = ad156 := (by injection e156); have qi156 : (0 < l0.length) = True := eq_true (by omega); (try rw [show ((0 : Int)).toNat = 0 from rfl] at hx156_0); (try rw [show 0 * 4 = 0 from rfl] at hx156_0); (try rw [Addr.add_zero'] at hx156_0); (try rw [show ((0 : Int)).toNat = 0 from rfl] at hx156_1); (try rw [show 0 * 4 = 0 from rfl] at hx156_1); (try rw [Addr.add_zero'] at hx156_1); (try rw [show ((0 : Int)).toNat = 0 from rfl] at hx156_2); (try rw [show 0 * 4 = 0 from rfl] at hx156_2); (try rw [Addr.add_zero'] at hx156_2); (try rw [show ((0 : Int)).toNat = 0 from rfl] at hx156_3); (try rw [show 0 * 4 = 0 from rfl] at hx156_3); (try rw [Addr.add_zero'] at hx156_3); replace hx156_0 := (HB.out.cell (World.block_lt_of_cell? w _ hx156_0)).trans hx156_0; replace hx156_1 := (HB.out.cell (World.block_lt_of_cell? w _ hx156_1)).trans hx156_1; replace hx156_2 := (HB.out.cell (World.block_lt_of_cell? w _ hx156_2)).trans hx156_2; replace hx156_3 := (HB.out.cell (World.block_lt_of_cell? w _ hx156_3)).trans hx156_3; replace p156 := eq_true p156; replace q156 := eq_true q156; have p157 : 0 ≤ (0 : Int) := (by omega); have q157 : 0 < (l0.length : Int) := of_decide_eq_true (by first | (with_reducible assumption) | assumption); obtain ⟨ad157, e157, hx157_0, hx157_1, hx157_2, hx157_3⟩ := at_T54 HR0.out 0 p157 q157; obtain rfl : ad155 = ad157 := (by injection e157); have qi157 : (0 < l0.length) = True := eq_true (by omega); (try rw [show ((0 : Int)).toNat = 0 from rfl] at hx157_0); (try rw [show 0 * 4 = 0 from rfl] at hx157_0); (try rw [Addr.add_zero'] at hx157_0); (try rw [show ((0 : Int)).toNat = 0 from rfl] at hx157_1); (try rw [show 0 * 4 = 0 from rfl] at hx157_1); (try rw [Addr.add_zero'] at hx157_1); (try rw [show ((0 : Int)).toNat = 0 from rfl] at hx157_2); (try rw [show 0 * 4 = 0 from rfl] at hx157_2); (try rw [Addr.add_zero'] at hx157_2); (try rw [show ((0 : Int)).toNat = 0 from rfl] at hx157_3); (try rw [show 0 * 4 = 0 from rfl] at hx157_3); (try rw [Addr.add_zero'] at hx157_3); replace hx157_0 := (HB.out.cell (World.block_lt_of_cell? w _ hx157_0)).trans hx157_0; replace hx157_1 := (HB.out.cell (World.block_lt_of_cell? w _ hx157_1)).trans hx157_1; replace hx157_2 := (HB.out.cell (World.block_lt_of_cell? w _ hx157_2)).trans hx157_2; replace hx157_3 := (HB.out.cell (World.block_lt_of_cell? w _ hx157_3)).trans hx157_3; replace p157 := eq_true p157; replace q157 := eq_true q157; have p158 : 0 ≤ (0 : Int) := (by omega); have q158 : 0 < (l0.length : Int) := of_decide_eq_true (by first | (with_reducible assumption) | assumption); obtain ⟨ad158, e158, hx158_0, hx158_1, hx158_2, hx158_3⟩ := at_T54 HR0.out 0 p158 q158; obtain rfl : ad155 = ad158 := (by injection e158); have qi158 : (0 < l0.length) = True := eq_true (by omega); (try rw [show ((0 : Int)).toNat = 0 from rfl] at hx158_0); (try rw [show 0 * 4 = 0 from rfl] at hx158_0); (try rw [Addr.add_zero'] at hx158_0); (try rw [show ((0 : Int)).toNat = 0 from rfl] at hx158_1); (try rw [show 0 * 4 = 0 from rfl] at hx158_1); (try rw [Addr.add_zero'] at hx158_1); (try rw [show ((0 : Int)).toNat = 0 from rfl] at hx158_2); (try rw [show 0 * 4 = 0 from rfl] at hx158_2); (try rw [Addr.add_zero'] at hx158_2); (try rw [show ((0 : Int)).toNat = 0 from rfl] at hx158_3); (try rw [show 0 * 4 = 0 from rfl] at hx158_3); (try rw [Addr.add_zero'] at hx158_3); replace hx158_0 := (HB.out.cell (World.block_lt_of_cell? w _ hx158_0)).trans hx158_0; replace hx158_1 := (HB.out.cell (World.block_lt_of_cell? w _ hx158_1)).trans hx158_1; replace hx158_2 := (HB.out.cell (World.block_lt_of_cell? w _ hx158_2)).trans hx158_2; replace hx158_3 := (HB.out.cell (World.block_lt_of_cell? w _ hx158_3)).trans hx158_3; replace p158 := eq_true p158; replace q158 := eq_true q158)); try go_wp2_with (first | ((with_reducible refine gate_dst (N := 2) rfl ?_); refine box_event ?hg (N := 2) ?hd (cs := #[.int .u32 0, .int .u32 0, .int .i64 0]) (t := 39) ?hr ?_; (case hd => rfl); (case hg => rfl); (case hr => first | (go_simp; done) | (go_simp; rfl)); intro gb154 hg w3 hbox hb; have n0_ := Aside0.mk (below_step (by repeat (first | (with_reducible first | exact HB.out | apply below_alloc | apply pw_below_drewN | apply below_drew1) | exact HB.out)) hb); have n1_ := Aside0.mk (hbox); have n2_ := Aside0.mk ((by rw [hg]; exact (below_size (by repeat (first | (with_reducible first | exact HB.out | apply below_alloc | apply pw_below_drewN | apply below_drew1) | exact HB.out))) : w.heap.size ≤ gb154)); have n3_ := Aside0.mk ((by rw [hg]; exact (below_size (by repeat (first | (with_reducible first | exact HB.out | apply below_alloc | apply pw_below_drewN | apply below_drew1) | exact HB.out))) : w.heap.size ≤ gb154)); clear HB; have HB := n0_; have BK154 := n1_; have GW154 := n2_; have GE154 := n3_; clear n0_ n1_ n2_ n3_; clear hb hbox hg; have p155 : 0 ≤ (0 : Int) := (by omega); have q155 : 0 < (l0.length : Int) := of_decide_eq_true (by first | (with_reducible assumption) | assumption); obtain ⟨ad155, e155, hx155_0, hx155_1, hx155_2, hx155_3⟩ := at_T54 HR0.out 0 p155 q155; cases e155; have qi155 : (0 < l0.length) = True := eq_true (by omega); (try rw [show ((0 : Int)).toNat = 0 from rfl] at hx155_0); (try rw [show 0 * 4 = 0 from rfl] at hx155_0); (try rw [Addr.add_zero'] at hx155_0); (try rw [show ((0 : Int)).toNat = 0 from rfl] at hx155_1); (try rw [show 0 * 4 = 0 from rfl] at hx155_1); (try rw [Addr.add_zero'] at hx155_1); (try rw [show ((0 : Int)).toNat = 0 from rfl] at hx155_2); (try rw [show 0 * 4 = 0 from rfl] at hx155_2); (try rw [Addr.add_zero'] at hx155_2); (try rw [show ((0 : Int)).toNat = 0 from rfl] at hx155_3); (try rw [show 0 * 4 = 0 from rfl] at hx155_3); (try rw [Addr.add_zero'] at hx155_3); replace hx155_0 := (HB.out.cell (World.block_lt_of_cell? w _ hx155_0)).trans hx155_0; replace hx155_1 := (HB.out.cell (World.block_lt_of_cell? w _ hx155_1)).trans hx155_1; replace hx155_2 := (HB.out.cell (World.block_lt_of_cell? w _ hx155_2)).trans hx155_2; replace hx155_3 := (HB.out.cell (World.block_lt_of_cell? w _ hx155_3)).trans hx155_3; replace p155 := eq_true p155; replace q155 := eq_true q155; have p156 : 0 ≤ (0 : Int) := (by omega); have q156 : 0 < (l0.length : Int) := of_decide_eq_true (by first | (with_reducible assumption) | assumption); obtain ⟨ad156, e156, hx156_0, hx156_1, hx156_2, hx156_3⟩ := at_T54 HR0.out 0 p156 q156; obtain rfl : ad155 = ad156 := (by injection e156); have qi156 : (0 < l0.length) = True := eq_true (by omega); (try rw [show ((0 : Int)).toNat = 0 from rfl] at hx156_0); (try rw [show 0 * 4 = 0 from rfl] at hx156_0); (try rw [Addr.add_zero'] at hx156_0); (try rw [show ((0 : Int)).toNat = 0 from rfl] at hx156_1); (try rw [show 0 * 4 = 0 from rfl] at hx156_1); (try rw [Addr.add_zero'] at hx156_1); (try rw [show ((0 : Int)).toNat = 0 from rfl] at hx156_2); (try rw [show 0 * 4 = 0 from rfl] at hx156_2); (try rw [Addr.add_zero'] at hx156_2); (try rw [show ((0 : Int)).toNat = 0 from rfl] at hx156_3); (try rw [show 0 * 4 = 0 from rfl] at hx156_3); (try rw [Addr.add_zero'] at hx156_3); replace hx156_0 := (HB.out.cell (World.block_lt_of_cell? w _ hx156_0)).trans hx156_0; replace hx156_1 := (HB.out.cell (World.block_lt_of_cell? w _ hx156_1)).trans hx156_1; replace hx156_2 := (HB.out.cell (World.block_lt_of_cell? w _ hx156_2)).trans hx156_2; replace hx156_3 := (HB.out.cell (World.block_lt_of_cell? w _ hx156_3)).trans hx156_3; replace p156 := eq_true p156; replace q156 := eq_true q156; have p157 : 0 ≤ (0 : Int) := (by omega); have q157 : 0 < (l0.length : Int) := of_decide_eq_true (by first | (with_reducible assumption) | assumption); obtain ⟨ad157, e157, hx157_0, hx157_1, hx157_2, hx157_3⟩ := at_T54 HR0.out 0 p157 q157; obtain rfl : ad155 = ad157 := (by injection e157); have qi157 : (0 < l0.length) = True := eq_true (by omega); (try rw [show ((0 : Int)).toNat = 0 from rfl] at hx157_0); (try rw [show 0 * 4 = 0 from rfl] at hx157_0); (try rw [Addr.add_zero'] at hx157_0); (try rw [show ((0 : Int)).toNat = 0 from rfl] at hx157_1); (try rw [show 0 * 4 = 0 from rfl] at hx157_1); (try rw [Addr.add_zero'] at hx157_1); (try rw [show ((0 : Int)).toNat = 0 from rfl] at hx157_2); (try rw [show 0 * 4 = 0 from rfl] at hx157_2); (try rw [Addr.add_zero'] at hx157_2); (try rw [show ((0 : Int)).toNat = 0 from rfl] at hx157_3); (try rw [show 0 * 4 = 0 from rfl] at hx157_3); (try rw [Addr.add_zero'] at hx157_3); replace hx157_0 := (HB.out.cell (World.block_lt_of_cell? w _ hx157_0)).trans hx157_0; replace hx157_1 := (HB.out.cell (World.block_lt_of_cell? w _ hx157_1)).trans hx157_1; replace hx157_2 := (HB.out.cell (World.block_lt_of_cell? w _ hx157_2)).trans hx157_2; replace hx157_3 := (HB.out.cell (World.block_lt_of_cell? w _ hx157_3)).trans hx157_3; replace p157 := eq_true p157; replace q157 := eq_true q157; have p158 : 0 ≤ (0 : Int) := (by omega); have q158 : 0 < (l0.length : Int) := of_decide_eq_true (by first | (with_reducible assumption) | assumption); obtain ⟨ad158, e158, hx158_0, hx158_1, hx158_2, hx158_3⟩ := at_T54 HR0.out 0 p158 q158; obtain rfl : ad155 = ad158 := (by injection e158); have qi158 : (0 < l0.length) = True := eq_true (by omega); (try rw [show ((0 : Int)).toNat = 0 from rfl] at hx158_0); (try rw [show 0 * 4 = 0 from rfl] at hx158_0); (try rw [Addr.add_zero'] at hx158_0); (try rw [show ((0 : Int)).toNat = 0 from rfl] at hx158_1); (try rw [show 0 * 4 = 0 from rfl] at hx158_1); (try rw [Addr.add_zero'] at hx158_1); (try rw [show ((0 : Int)).toNat = 0 from rfl] at hx158_2); (try rw [show 0 * 4 = 0 from rfl] at hx158_2); (try rw [Addr.add_zero'] at hx158_2); (try rw [show ((0 : Int)).toNat = 0 from rfl] at hx158_3); (try rw [show 0 * 4 = 0 from rfl] at hx158_3); (try rw [Addr.add_zero'] at hx158_3); replace hx158_0 := (HB.out.cell (World.block_lt_of_cell? w _ hx158_0)).trans hx158_0; replace hx158_1 := (HB.out.cell (World.block_lt_of_cell? w _ hx158_1)).trans hx158_1; replace hx158_2 := (HB.out.cell (World.block_lt_of_cell? w _ hx158_2)).trans hx158_2; replace hx158_3 := (HB.out.cell (World.block_lt_of_cell? w _ hx158_3)).trans hx158_3; replace p158 := eq_true p158; replace q158 := eq_true q158)))
  go_loopg [3, 4, 5, 6, 29] k (fun kq v3 v4 v5 v6 v29 w' => ∃ (x3_1 : Int) (x4_1 : Int) (x5_1 : Int) (x6_1 : Int) (x29_1 : Int), v3 = .int .u32 x3_1 ∧ v4 = .int .u32 x4_1 ∧ v5 = .int .u32 x5_1 ∧ v6 = .int .u32 x6_1 ∧ v29 = .int .i64 x29_1 ∧ Aside0 (quad_around.l0 kq x3_1 x4_1 x5_1 x6_1 l0 (l0.length : Int) x29_1 = some (r1, r2, r3)) ∧ Aside0 (kq ≤ k) ∧ Aside0 (w'.heap[gb154]? = some (.cells #[.int .u32 0, .int .u32 0, .int .i64 0] 39 (0, 0))) ∧ Aside0 (Below w.heap.size w w'))
  case atStart => exact ⟨((rd_T54 l0 0).f1), ((rd_T54 l0 0).f2), ((rd_T54 l0 0).f1), ((rd_T54 l0 0).f2), (0), (by first | rfl | (simp; done) | (simp [*]; done)), (by first | rfl | (simp; done) | (simp [*]; done)), (by first | rfl | (simp; done) | (simp [*]; done)), (by first | rfl | (simp; done) | (simp [*]; done)), (by first | rfl | (simp; done) | (simp [*]; done)), H', ⟨Nat.le_refl _⟩, ⟨by (with_reducible repeat (first | refine blk_drewN ?_ _ | refine blk_drew ?_ | refine blk_alloc ?_ _)); exact BK154.out⟩, ⟨by repeat (first | (with_reducible first | exact HB.out | apply below_alloc | apply pw_below_drewN | apply below_drew1 | refine below_set ?_ GE154.out) | exact HB.out)⟩⟩
  case round =>
   clear H'
   try clear p1
   try clear q1
   try clear hx1
   try clear qi1
   try clear c2
   try clear c2b0
   try clear c2b1
   try clear p2
   try clear hx155_0
   try clear hx155_1
   try clear hx155_2
   try clear hx155_3
   try clear hx156_0
   try clear hx156_1
   try clear hx156_2
   try clear hx156_3
   try clear hx157_0
   try clear hx157_1
   try clear hx157_2
   try clear hx157_3
   try clear hx158_0
   try clear hx158_1
   try clear hx158_2
   try clear hx158_3
   try clear p155
   try clear p156
   try clear p157
   try clear p158
   try clear q155
   try clear q156
   try clear q157
   try clear q158
   obtain ⟨x3_1, x4_1, x5_1, x6_1, x29_1, rfl, rfl, rfl, rfl, rfl, HA, HK1, BK154, HB⟩ := hrel
   cases gk with
   | zero => exact absurd HA.out (by simp [quad_around.l0])
   | succ k1 =>
    have H := HA.out
    clear HA
    simp only [quad_around.l0] at H
    by_cases c4 : x29_1 < (l0.length : Int)
    ·rw [if_pos c4] at H
     have c4b0 : decide (x29_1 < (l0.length : Int)) = true := decide_eq_true c4
     clear c4
     by_cases c5 : 0 ≤ x29_1
     ·rw [if_pos c5] at H
      have c5b0 : decide (0 ≤ x29_1) = true := decide_eq_true c5
      clear c5
      by_cases c6 : x29_1 < (l0.length : Int)
      ·rw [if_pos c6] at H
       have c6b0 : decide (x29_1 < (l0.length : Int)) = true := decide_eq_true c6
       clear c6
       obtain ⟨ji7, hji7⟩ : ∃ j_ : Int, (mn x3_1 ((rd_T54 l0 x29_1).f1)) = j_ := ⟨_, rfl⟩
       replace H : (quad_around.l0 k1 ji7 (mn x4_1 ((rd_T54 l0 x29_1).f2)) (mx x5_1 ((rd_T54 l0 x29_1).f1)) (mx x6_1 ((rd_T54 l0 x29_1).f2)) l0 (l0.length : Int) (wrap64 (x29_1 + 1))) = some (r1, r2, r3) := by first | (rw [hji7] at H; exact H) | (simp only [hji7] at H ⊢; exact H)
       have hji7_ : (if ((rd_T54 l0 x29_1).f1) < x3_1 then ((rd_T54 l0 x29_1).f1) else x3_1) = ji7 := hji7
       obtain ⟨ji8, hji8⟩ : ∃ j_ : Int, (mn x4_1 ((rd_T54 l0 x29_1).f2)) = j_ := ⟨_, rfl⟩
       replace H : (quad_around.l0 k1 ji7 ji8 (mx x5_1 ((rd_T54 l0 x29_1).f1)) (mx x6_1 ((rd_T54 l0 x29_1).f2)) l0 (l0.length : Int) (wrap64 (x29_1 + 1))) = some (r1, r2, r3) := by first | (rw [hji8] at H; exact H) | (simp only [hji8] at H ⊢; exact H)
       have hji8_ : (if ((rd_T54 l0 x29_1).f2) < x4_1 then ((rd_T54 l0 x29_1).f2) else x4_1) = ji8 := hji8
       obtain ⟨ji9, hji9⟩ : ∃ j_ : Int, (mx x5_1 ((rd_T54 l0 x29_1).f1)) = j_ := ⟨_, rfl⟩
       replace H : (quad_around.l0 k1 ji7 ji8 ji9 (mx x6_1 ((rd_T54 l0 x29_1).f2)) l0 (l0.length : Int) (wrap64 (x29_1 + 1))) = some (r1, r2, r3) := by first | (rw [hji9] at H; exact H) | (simp only [hji9] at H ⊢; exact H)
       have hji9_ : (if x5_1 < ((rd_T54 l0 x29_1).f1) then ((rd_T54 l0 x29_1).f1) else x5_1) = ji9 := hji9
       obtain ⟨ji10, hji10⟩ : ∃ j_ : Int, (mx x6_1 ((rd_T54 l0 x29_1).f2)) = j_ := ⟨_, rfl⟩
       replace H : (quad_around.l0 k1 ji7 ji8 ji9 ji10 l0 (l0.length : Int) (wrap64 (x29_1 + 1))) = some (r1, r2, r3) := by first | (rw [hji10] at H; exact H) | (simp only [hji10] at H ⊢; exact H)
       have hji10_ : (if x6_1 < ((rd_T54 l0 x29_1).f2) then ((rd_T54 l0 x29_1).f2) else x6_1) = ji10 := hji10
       have H' := Aside0.mk H
       clear H
       have p159 : 0 ≤ (x29_1 : Int) := of_decide_eq_true (by first | (with_reducible assumption) | assumption)
       have q159 : x29_1 < (l0.length : Int) := of_decide_eq_true (by first | (with_reducible assumption) | assumption)
       obtain ⟨ad159, e159, hx159_0, hx159_1, hx159_2, hx159_3⟩ := at_T54 HR0.out x29_1 p159 q159
       obtain rfl : ad155 = ad159 := (by injection e159)
       replace hx159_0 := (HB.out.cell (World.block_lt_of_cell? w _ hx159_0)).trans hx159_0
       replace hx159_1 := (HB.out.cell (World.block_lt_of_cell? w _ hx159_1)).trans hx159_1
       replace hx159_2 := (HB.out.cell (World.block_lt_of_cell? w _ hx159_2)).trans hx159_2
       replace hx159_3 := (HB.out.cell (World.block_lt_of_cell? w _ hx159_3)).trans hx159_3
       replace p159 := eq_true p159
       replace q159 := eq_true q159
       go_wp2_with (first | ((with_reducible refine gate_dst (N := 8) rfl ?_); refine box_event ?hg (N := 8) ?hd (cs := #[.int .u64 0, .int .u32 0, .int .u32 0, .string (⟨#[]⟩ : ByteArray)]) (t := 54) ?hr ?_; (case hd => rfl); (case hg => rfl); (case hr => first | (go_simp; done) | (go_simp; rfl)); intro gb160 hg w11 hbox hb; have n0_ := Aside0.mk (blk_below (g := gb154) (o := .cells #[.int .u32 0, .int .u32 0, .int .i64 0] 39 (0, 0)) (by (with_reducible repeat (first | refine blk_drewN ?_ _ | refine blk_drew ?_ | refine blk_alloc ?_ _)); exact BK154.out) hb); have n1_ := Aside0.mk (below_step (by repeat (first | (with_reducible first | exact HB.out | apply below_alloc | apply pw_below_drewN | apply below_drew1 | refine below_set ?_ GE154.out) | exact HB.out)) hb); have n2_ := Aside0.mk (hbox); have n3_ := Aside0.mk ((by rw [hg]; exact (below_size (by repeat (first | (with_reducible first | exact HB.out | apply below_alloc | apply pw_below_drewN | apply below_drew1 | refine below_set ?_ GE154.out) | exact HB.out))) : w.heap.size ≤ gb160)); have n4_ := Aside0.mk ((by rw [hg]; exact (below_size (by repeat (first | (with_reducible first | exact HB.out | apply below_alloc | apply pw_below_drewN | apply below_drew1 | refine below_set ?_ GE154.out) | exact HB.out))) : w.heap.size ≤ gb160)); have n5_ := Aside0.mk ((by rw [hg]; exact Nat.ne_of_lt (blk_lt (g := gb154) (o := .cells #[.int .u32 0, .int .u32 0, .int .i64 0] 39 (0, 0)) (by (with_reducible repeat (first | refine blk_drewN ?_ _ | refine blk_drew ?_ | refine blk_alloc ?_ _)); exact BK154.out)) : gb154 ≠ gb160)); have n6_ := Aside0.mk ((by rw [hg]; exact Nat.ne_of_gt (blk_lt (g := gb154) (o := .cells #[.int .u32 0, .int .u32 0, .int .i64 0] 39 (0, 0)) (by (with_reducible repeat (first | refine blk_drewN ?_ _ | refine blk_drew ?_ | refine blk_alloc ?_ _)); exact BK154.out)) : gb160 ≠ gb154)); clear BK154; clear HB; have BK154 := n0_; have HB := n1_; have BK160 := n2_; have GW160 := n3_; have GE160 := n4_; have NB154_160 := n5_; have NB160_154 := n6_; clear n0_ n1_ n2_ n3_ n4_ n5_ n6_; clear hb hbox hg; have hnb12 := NB160_154.out; have hnc12 := NB154_160.out; have hcz13_0 : w11.cell? ⟨gb160, 0, none⟩ = some (.int .u64 0) := (blk_cell BK160.out 0).trans rfl; have hcz13_1 : w11.cell? ⟨gb160, 1, none⟩ = some (.int .u32 0) := (blk_cell BK160.out 1).trans rfl; have hcz13_2 : w11.cell? ⟨gb160, 2, none⟩ = some (.int .u32 0) := (blk_cell BK160.out 2).trans rfl; have hcz13_3 : w11.cell? ⟨gb160, 3, none⟩ = some (.string (⟨#[]⟩ : ByteArray)) := (blk_cell BK160.out 3).trans rfl; have hfz13_0 := blk_frozen BK160.out 0; have hfz13_1 := blk_frozen BK160.out 1; have hfz13_2 := blk_frozen BK160.out 2; have hfz13_3 := blk_frozen BK160.out 3))
       repeat (go_quiet (first | ((with_reducible refine gate_dst (N := 8) rfl ?_); refine box_event ?hg (N := 8) ?hd (cs := #[.int .u64 0, .int .u32 0, .int .u32 0, .string (⟨#[]⟩ : ByteArray)]) (t := 54) ?hr ?_; (case hd => rfl); (case hg => rfl); (case hr => first | (go_simp; done) | (go_simp; rfl)); intro gb160 hg w11 hbox hb; have n0_ := Aside0.mk (blk_below (g := gb154) (o := .cells #[.int .u32 0, .int .u32 0, .int .i64 0] 39 (0, 0)) (by (with_reducible repeat (first | refine blk_drewN ?_ _ | refine blk_drew ?_ | refine blk_alloc ?_ _)); exact BK154.out) hb); have n1_ := Aside0.mk (below_step (by repeat (first | (with_reducible first | exact HB.out | apply below_alloc | apply pw_below_drewN | apply below_drew1 | refine below_set ?_ GE154.out) | exact HB.out)) hb); have n2_ := Aside0.mk (hbox); have n3_ := Aside0.mk ((by rw [hg]; exact (below_size (by repeat (first | (with_reducible first | exact HB.out | apply below_alloc | apply pw_below_drewN | apply below_drew1 | refine below_set ?_ GE154.out) | exact HB.out))) : w.heap.size ≤ gb160)); have n4_ := Aside0.mk ((by rw [hg]; exact (below_size (by repeat (first | (with_reducible first | exact HB.out | apply below_alloc | apply pw_below_drewN | apply below_drew1 | refine below_set ?_ GE154.out) | exact HB.out))) : w.heap.size ≤ gb160)); have n5_ := Aside0.mk ((by rw [hg]; exact Nat.ne_of_lt (blk_lt (g := gb154) (o := .cells #[.int .u32 0, .int .u32 0, .int .i64 0] 39 (0, 0)) (by (with_reducible repeat (first | refine blk_drewN ?_ _ | refine blk_drew ?_ | refine blk_alloc ?_ _)); exact BK154.out)) : gb154 ≠ gb160)); have n6_ := Aside0.mk ((by rw [hg]; exact Nat.ne_of_gt (blk_lt (g := gb154) (o := .cells #[.int .u32 0, .int .u32 0, .int .i64 0] 39 (0, 0)) (by (with_reducible repeat (first | refine blk_drewN ?_ _ | refine blk_drew ?_ | refine blk_alloc ?_ _)); exact BK154.out)) : gb160 ≠ gb154)); clear BK154; clear HB; have BK154 := n0_; have HB := n1_; have BK160 := n2_; have GW160 := n3_; have GE160 := n4_; have NB154_160 := n5_; have NB160_154 := n6_; clear n0_ n1_ n2_ n3_ n4_ n5_ n6_; clear hb hbox hg; have hnb12 := NB160_154.out; have hnc12 := NB154_160.out; have hcz13_0 : w11.cell? ⟨gb160, 0, none⟩ = some (.int .u64 0) := (blk_cell BK160.out 0).trans rfl; have hcz13_1 : w11.cell? ⟨gb160, 1, none⟩ = some (.int .u32 0) := (blk_cell BK160.out 1).trans rfl; have hcz13_2 : w11.cell? ⟨gb160, 2, none⟩ = some (.int .u32 0) := (blk_cell BK160.out 2).trans rfl; have hcz13_3 : w11.cell? ⟨gb160, 3, none⟩ = some (.string (⟨#[]⟩ : ByteArray)) := (blk_cell BK160.out 3).trans rfl; have hfz13_0 := blk_frozen BK160.out 0; have hfz13_1 := blk_frozen BK160.out 1; have hfz13_2 := blk_frozen BK160.out 2; have hfz13_3 := blk_frozen BK160.out 3)); try go_wp2_with (first | ((with_reducible refine gate_dst (N := 8) rfl ?_); refine box_event ?hg (N := 8) ?hd (cs := #[.int .u64 0, .int .u32 0, .int .u32 0, .string (⟨#[]⟩ : ByteArray)]) (t := 54) ?hr ?_; (case hd => rfl); (case hg => rfl); (case hr => first | (go_simp; done) | (go_simp; rfl)); intro gb160 hg w11 hbox hb; have n0_ := Aside0.mk (blk_below (g := gb154) (o := .cells #[.int .u32 0, .int .u32 0, .int .i64 0] 39 (0, 0)) (by (with_reducible repeat (first | refine blk_drewN ?_ _ | refine blk_drew ?_ | refine blk_alloc ?_ _)); exact BK154.out) hb); have n1_ := Aside0.mk (below_step (by repeat (first | (with_reducible first | exact HB.out | apply below_alloc | apply pw_below_drewN | apply below_drew1 | refine below_set ?_ GE154.out) | exact HB.out)) hb); have n2_ := Aside0.mk (hbox); have n3_ := Aside0.mk ((by rw [hg]; exact (below_size (by repeat (first | (with_reducible first | exact HB.out | apply below_alloc | apply pw_below_drewN | apply below_drew1 | refine below_set ?_ GE154.out) | exact HB.out))) : w.heap.size ≤ gb160)); have n4_ := Aside0.mk ((by rw [hg]; exact (below_size (by repeat (first | (with_reducible first | exact HB.out | apply below_alloc | apply pw_below_drewN | apply below_drew1 | refine below_set ?_ GE154.out) | exact HB.out))) : w.heap.size ≤ gb160)); have n5_ := Aside0.mk ((by rw [hg]; exact Nat.ne_of_lt (blk_lt (g := gb154) (o := .cells #[.int .u32 0, .int .u32 0, .int .i64 0] 39 (0, 0)) (by (with_reducible repeat (first | refine blk_drewN ?_ _ | refine blk_drew ?_ | refine blk_alloc ?_ _)); exact BK154.out)) : gb154 ≠ gb160)); have n6_ := Aside0.mk ((by rw [hg]; exact Nat.ne_of_gt (blk_lt (g := gb154) (o := .cells #[.int .u32 0, .int .u32 0, .int .i64 0] 39 (0, 0)) (by (with_reducible repeat (first | refine blk_drewN ?_ _ | refine blk_drew ?_ | refine blk_alloc ?_ _)); exact BK154.out)) : gb160 ≠ gb154)); clear BK154; clear HB; have BK154 := n0_; have HB := n1_; have BK160 := n2_; have GW160 := n3_; have GE160 := n4_; have NB154_160 := n5_; have NB160_154 := n6_; clear n0_ n1_ n2_ n3_ n4_ n5_ n6_; clear hb hbox hg; have hnb12 := NB160_154.out; have hnc12 := NB154_160.out; have hcz13_0 : w11.cell? ⟨gb160, 0, none⟩ = some (.int .u64 0) := (blk_cell BK160.out 0).trans rfl; have hcz13_1 : w11.cell? ⟨gb160, 1, none⟩ = some (.int .u32 0) := (blk_cell BK160.out 1).trans rfl; have hcz13_2 : w11.cell? ⟨gb160, 2, none⟩ = some (.int .u32 0) := (blk_cell BK160.out 2).trans rfl; have hcz13_3 : w11.cell? ⟨gb160, 3, none⟩ = some (.string (⟨#[]⟩ : ByteArray)) := (blk_cell BK160.out 3).trans rfl; have hfz13_0 := blk_frozen BK160.out 0; have hfz13_1 := blk_frozen BK160.out 1; have hfz13_2 := blk_frozen BK160.out 2; have hfz13_3 := blk_frozen BK160.out 3)))
       go_roundg k1
       case measure => have := HK1.out; omega
       case rel => exact ⟨(ji7), (ji8), (ji9), (ji10), (wrap64 (x29_1 + 1)), (by first | rfl | (simp; done) | (simp only [← hji7] <;> (first | rfl | simp)) | (simp [*]; done)), (by first | rfl | (simp; done) | (simp only [← hji8] <;> (first | rfl | simp)) | (simp [*]; done)), (by first | rfl | (simp; done) | (simp only [← hji9] <;> (first | rfl | simp)) | (simp [*]; done)), (by first | rfl | (simp; done) | (simp only [← hji10] <;> (first | rfl | simp)) | (simp [*]; done)), (by first | rfl | (simp; done) | (simp [*]; done)), H', ⟨by have := HK1.out; omega⟩, ⟨by (with_reducible repeat (first | refine blk_drewN ?_ _ | refine blk_drew ?_ | refine blk_alloc ?_ _)); refine blk_far ?_ NB154_160.out _; (with_reducible repeat (first | refine blk_drewN ?_ _ | refine blk_drew ?_ | refine blk_alloc ?_ _)); refine blk_far ?_ NB154_160.out _; (with_reducible repeat (first | refine blk_drewN ?_ _ | refine blk_drew ?_ | refine blk_alloc ?_ _)); refine blk_far ?_ NB154_160.out _; (with_reducible repeat (first | refine blk_drewN ?_ _ | refine blk_drew ?_ | refine blk_alloc ?_ _)); refine blk_far ?_ NB154_160.out _; (with_reducible repeat (first | refine blk_drewN ?_ _ | refine blk_drew ?_ | refine blk_alloc ?_ _)); exact BK154.out⟩, ⟨by repeat (first | (with_reducible first | exact HB.out | apply below_alloc | apply pw_below_drewN | apply below_drew1 | refine below_set ?_ GE154.out | refine below_set ?_ GE160.out) | exact HB.out)⟩⟩
      ·rw [if_neg c6] at H
       exact absurd H (by simp)
     ·rw [if_neg c5] at H
      exact absurd H (by simp)
    ·rw [if_neg c4] at H
     have c4b0 : decide (x29_1 < (l0.length : Int)) = false := decide_eq_false c4
     clear c4
     replace H := Option.bind_eq_some_iff.mp H
     obtain ⟨⟨t161, t162, t163, t164⟩, A140, H⟩ := H
     replace H : (some (t161, t162, t163)) = some (r1, r2, r3) := H
     have A14 := Aside0.mk A140
     clear A140
     simp only [Option.some.injEq, Prod.mk.injEq] at H
     obtain ⟨rfl, rfl, rfl⟩ := H
     go_wp2_with (first | (go_at_call 75; (with_reducible refine (cell_Least.calls x3_1 x4_1 x5_1 x6_1 t161 t162 t163 t164 _ A14.out).mono ?_); rintro e w15 ⟨rfl, hb⟩; have n0_ := Aside0.mk (blk_below (g := gb154) (o := .cells #[.int .u32 0, .int .u32 0, .int .i64 0] 39 (0, 0)) (by (with_reducible repeat (first | refine blk_drewN ?_ _ | refine blk_drew ?_ | refine blk_alloc ?_ _)); exact BK154.out) hb); have n1_ := Aside0.mk (below_step (by repeat (first | (with_reducible first | exact HB.out | apply below_alloc | apply pw_below_drewN | apply below_drew1 | refine below_set ?_ GE154.out) | exact HB.out)) hb); clear BK154; clear HB; have BK154 := n0_; have HB := n1_; clear n0_ n1_; (try clear hb); (try clear hb2); (try clear hk); (try clear hi)) | ((with_reducible refine gate_dst (N := 9) rfl ?_); refine box_event ?hg (N := 9) ?hd (cs := #[.int .u32 0, .int .u32 0, .int .i64 0]) (t := 39) ?hr ?_; (case hd => rfl); (case hg => rfl); (case hr => first | (go_simp; done) | (go_simp; rfl)); intro gb165 hg w16 hbox hb; have n0_ := Aside0.mk (blk_below (g := gb154) (o := .cells #[.int .u32 0, .int .u32 0, .int .i64 0] 39 (0, 0)) (by (with_reducible repeat (first | refine blk_drewN ?_ _ | refine blk_drew ?_ | refine blk_alloc ?_ _)); exact BK154.out) hb); have n1_ := Aside0.mk (below_step (by repeat (first | (with_reducible first | exact HB.out | apply below_alloc | apply pw_below_drewN | apply below_drew1 | refine below_set ?_ GE154.out) | exact HB.out)) hb); have n2_ := Aside0.mk (hbox); have n3_ := Aside0.mk ((by rw [hg]; exact (below_size (by repeat (first | (with_reducible first | exact HB.out | apply below_alloc | apply pw_below_drewN | apply below_drew1 | refine below_set ?_ GE154.out) | exact HB.out))) : w.heap.size ≤ gb165)); have n4_ := Aside0.mk ((by rw [hg]; exact (below_size (by repeat (first | (with_reducible first | exact HB.out | apply below_alloc | apply pw_below_drewN | apply below_drew1 | refine below_set ?_ GE154.out) | exact HB.out))) : w.heap.size ≤ gb165)); have n5_ := Aside0.mk ((by rw [hg]; exact Nat.ne_of_lt (blk_lt (g := gb154) (o := .cells #[.int .u32 0, .int .u32 0, .int .i64 0] 39 (0, 0)) (by (with_reducible repeat (first | refine blk_drewN ?_ _ | refine blk_drew ?_ | refine blk_alloc ?_ _)); exact BK154.out)) : gb154 ≠ gb165)); have n6_ := Aside0.mk ((by rw [hg]; exact Nat.ne_of_gt (blk_lt (g := gb154) (o := .cells #[.int .u32 0, .int .u32 0, .int .i64 0] 39 (0, 0)) (by (with_reducible repeat (first | refine blk_drewN ?_ _ | refine blk_drew ?_ | refine blk_alloc ?_ _)); exact BK154.out)) : gb165 ≠ gb154)); clear BK154; clear HB; have BK154 := n0_; have HB := n1_; have BK165 := n2_; have GW165 := n3_; have GE165 := n4_; have NB154_165 := n5_; have NB165_154 := n6_; clear n0_ n1_ n2_ n3_ n4_ n5_ n6_; clear hb hbox hg; have hnb17 := NB165_154.out; have hnc17 := NB154_165.out; have hcz18_0 : w16.cell? ⟨gb165, 0, none⟩ = some (.int .u32 0) := (blk_cell BK165.out 0).trans rfl; have hcz18_1 : w16.cell? ⟨gb165, 1, none⟩ = some (.int .u32 0) := (blk_cell BK165.out 1).trans rfl; have hcz18_2 : w16.cell? ⟨gb165, 2, none⟩ = some (.int .i64 0) := (blk_cell BK165.out 2).trans rfl; have hfz18_0 := blk_frozen BK165.out 0; have hfz18_1 := blk_frozen BK165.out 1; have hfz18_2 := blk_frozen BK165.out 2; have hcz19_0 : w16.cell? ⟨gb154, 0, none⟩ = some (.int .u32 0) := (blk_cell BK154.out 0).trans rfl; have hcz19_1 : w16.cell? ⟨gb154, 1, none⟩ = some (.int .u32 0) := (blk_cell BK154.out 1).trans rfl; have hcz19_2 : w16.cell? ⟨gb154, 2, none⟩ = some (.int .i64 0) := (blk_cell BK154.out 2).trans rfl; have hfz19_0 := blk_frozen BK154.out 0; have hfz19_1 := blk_frozen BK154.out 1; have hfz19_2 := blk_frozen BK154.out 2))
     repeat (go_quiet (first | (go_at_call 75; (with_reducible refine (cell_Least.calls x3_1 x4_1 x5_1 x6_1 t161 t162 t163 t164 _ A14.out).mono ?_); rintro e w15 ⟨rfl, hb⟩; have n0_ := Aside0.mk (blk_below (g := gb154) (o := .cells #[.int .u32 0, .int .u32 0, .int .i64 0] 39 (0, 0)) (by (with_reducible repeat (first | refine blk_drewN ?_ _ | refine blk_drew ?_ | refine blk_alloc ?_ _)); exact BK154.out) hb); have n1_ := Aside0.mk (below_step (by repeat (first | (with_reducible first | exact HB.out | apply below_alloc | apply pw_below_drewN | apply below_drew1 | refine below_set ?_ GE154.out) | exact HB.out)) hb); clear BK154; clear HB; have BK154 := n0_; have HB := n1_; clear n0_ n1_; (try clear hb); (try clear hb2); (try clear hk); (try clear hi)) | ((with_reducible refine gate_dst (N := 9) rfl ?_); refine box_event ?hg (N := 9) ?hd (cs := #[.int .u32 0, .int .u32 0, .int .i64 0]) (t := 39) ?hr ?_; (case hd => rfl); (case hg => rfl); (case hr => first | (go_simp; done) | (go_simp; rfl)); intro gb165 hg w16 hbox hb; have n0_ := Aside0.mk (blk_below (g := gb154) (o := .cells #[.int .u32 0, .int .u32 0, .int .i64 0] 39 (0, 0)) (by (with_reducible repeat (first | refine blk_drewN ?_ _ | refine blk_drew ?_ | refine blk_alloc ?_ _)); exact BK154.out) hb); have n1_ := Aside0.mk (below_step (by repeat (first | (with_reducible first | exact HB.out | apply below_alloc | apply pw_below_drewN | apply below_drew1 | refine below_set ?_ GE154.out) | exact HB.out)) hb); have n2_ := Aside0.mk (hbox); have n3_ := Aside0.mk ((by rw [hg]; exact (below_size (by repeat (first | (with_reducible first | exact HB.out | apply below_alloc | apply pw_below_drewN | apply below_drew1 | refine below_set ?_ GE154.out) | exact HB.out))) : w.heap.size ≤ gb165)); have n4_ := Aside0.mk ((by rw [hg]; exact (below_size (by repeat (first | (with_reducible first | exact HB.out | apply below_alloc | apply pw_below_drewN | apply below_drew1 | refine below_set ?_ GE154.out) | exact HB.out))) : w.heap.size ≤ gb165)); have n5_ := Aside0.mk ((by rw [hg]; exact Nat.ne_of_lt (blk_lt (g := gb154) (o := .cells #[.int .u32 0, .int .u32 0, .int .i64 0] 39 (0, 0)) (by (with_reducible repeat (first | refine blk_drewN ?_ _ | refine blk_drew ?_ | refine blk_alloc ?_ _)); exact BK154.out)) : gb154 ≠ gb165)); have n6_ := Aside0.mk ((by rw [hg]; exact Nat.ne_of_gt (blk_lt (g := gb154) (o := .cells #[.int .u32 0, .int .u32 0, .int .i64 0] 39 (0, 0)) (by (with_reducible repeat (first | refine blk_drewN ?_ _ | refine blk_drew ?_ | refine blk_alloc ?_ _)); exact BK154.out)) : gb165 ≠ gb154)); clear BK154; clear HB; have BK154 := n0_; have HB := n1_; have BK165 := n2_; have GW165 := n3_; have GE165 := n4_; have NB154_165 := n5_; have NB165_154 := n6_; clear n0_ n1_ n2_ n3_ n4_ n5_ n6_; clear hb hbox hg; have hnb17 := NB165_154.out; have hnc17 := NB154_165.out; have hcz18_0 : w16.cell? ⟨gb165, 0, none⟩ = some (.int .u32 0) := (blk_cell BK165.out 0).trans rfl; have hcz18_1 : w16.cell? ⟨gb165, 1, none⟩ = some (.int .u32 0) := (blk_cell BK165.out 1).trans rfl; have hcz18_2 : w16.cell? ⟨gb165, 2, none⟩ = some (.int .i64 0) := (blk_cell BK165.out 2).trans rfl; have hfz18_0 := blk_frozen BK165.out 0; have hfz18_1 := blk_frozen BK165.out 1; have hfz18_2 := blk_frozen BK165.out 2; have hcz19_0 : w16.cell? ⟨gb154, 0, none⟩ = some (.int .u32 0) := (blk_cell BK154.out 0).trans rfl; have hcz19_1 : w16.cell? ⟨gb154, 1, none⟩ = some (.int .u32 0) := (blk_cell BK154.out 1).trans rfl; have hcz19_2 : w16.cell? ⟨gb154, 2, none⟩ = some (.int .i64 0) := (blk_cell BK154.out 2).trans rfl; have hfz19_0 := blk_frozen BK154.out 0; have hfz19_1 := blk_frozen BK154.out 1; have hfz19_2 := blk_frozen BK154.out 2)); try go_wp2_with (first | (go_at_call 75; (with_reducible refine (cell_Least.calls x3_1 x4_1 x5_1 x6_1 t161 t162 t163 t164 _ A14.out).mono ?_); rintro e w15 ⟨rfl, hb⟩; have n0_ := Aside0.mk (blk_below (g := gb154) (o := .cells #[.int .u32 0, .int .u32 0, .int .i64 0] 39 (0, 0)) (by (with_reducible repeat (first | refine blk_drewN ?_ _ | refine blk_drew ?_ | refine blk_alloc ?_ _)); exact BK154.out) hb); have n1_ := Aside0.mk (below_step (by repeat (first | (with_reducible first | exact HB.out | apply below_alloc | apply pw_below_drewN | apply below_drew1 | refine below_set ?_ GE154.out) | exact HB.out)) hb); clear BK154; clear HB; have BK154 := n0_; have HB := n1_; clear n0_ n1_; (try clear hb); (try clear hb2); (try clear hk); (try clear hi)) | ((with_reducible refine gate_dst (N := 9) rfl ?_); refine box_event ?hg (N := 9) ?hd (cs := #[.int .u32 0, .int .u32 0, .int .i64 0]) (t := 39) ?hr ?_; (case hd => rfl); (case hg => rfl); (case hr => first | (go_simp; done) | (go_simp; rfl)); intro gb165 hg w16 hbox hb; have n0_ := Aside0.mk (blk_below (g := gb154) (o := .cells #[.int .u32 0, .int .u32 0, .int .i64 0] 39 (0, 0)) (by (with_reducible repeat (first | refine blk_drewN ?_ _ | refine blk_drew ?_ | refine blk_alloc ?_ _)); exact BK154.out) hb); have n1_ := Aside0.mk (below_step (by repeat (first | (with_reducible first | exact HB.out | apply below_alloc | apply pw_below_drewN | apply below_drew1 | refine below_set ?_ GE154.out) | exact HB.out)) hb); have n2_ := Aside0.mk (hbox); have n3_ := Aside0.mk ((by rw [hg]; exact (below_size (by repeat (first | (with_reducible first | exact HB.out | apply below_alloc | apply pw_below_drewN | apply below_drew1 | refine below_set ?_ GE154.out) | exact HB.out))) : w.heap.size ≤ gb165)); have n4_ := Aside0.mk ((by rw [hg]; exact (below_size (by repeat (first | (with_reducible first | exact HB.out | apply below_alloc | apply pw_below_drewN | apply below_drew1 | refine below_set ?_ GE154.out) | exact HB.out))) : w.heap.size ≤ gb165)); have n5_ := Aside0.mk ((by rw [hg]; exact Nat.ne_of_lt (blk_lt (g := gb154) (o := .cells #[.int .u32 0, .int .u32 0, .int .i64 0] 39 (0, 0)) (by (with_reducible repeat (first | refine blk_drewN ?_ _ | refine blk_drew ?_ | refine blk_alloc ?_ _)); exact BK154.out)) : gb154 ≠ gb165)); have n6_ := Aside0.mk ((by rw [hg]; exact Nat.ne_of_gt (blk_lt (g := gb154) (o := .cells #[.int .u32 0, .int .u32 0, .int .i64 0] 39 (0, 0)) (by (with_reducible repeat (first | refine blk_drewN ?_ _ | refine blk_drew ?_ | refine blk_alloc ?_ _)); exact BK154.out)) : gb165 ≠ gb154)); clear BK154; clear HB; have BK154 := n0_; have HB := n1_; have BK165 := n2_; have GW165 := n3_; have GE165 := n4_; have NB154_165 := n5_; have NB165_154 := n6_; clear n0_ n1_ n2_ n3_ n4_ n5_ n6_; clear hb hbox hg; have hnb17 := NB165_154.out; have hnc17 := NB154_165.out; have hcz18_0 : w16.cell? ⟨gb165, 0, none⟩ = some (.int .u32 0) := (blk_cell BK165.out 0).trans rfl; have hcz18_1 : w16.cell? ⟨gb165, 1, none⟩ = some (.int .u32 0) := (blk_cell BK165.out 1).trans rfl; have hcz18_2 : w16.cell? ⟨gb165, 2, none⟩ = some (.int .i64 0) := (blk_cell BK165.out 2).trans rfl; have hfz18_0 := blk_frozen BK165.out 0; have hfz18_1 := blk_frozen BK165.out 1; have hfz18_2 := blk_frozen BK165.out 2; have hcz19_0 : w16.cell? ⟨gb154, 0, none⟩ = some (.int .u32 0) := (blk_cell BK154.out 0).trans rfl; have hcz19_1 : w16.cell? ⟨gb154, 1, none⟩ = some (.int .u32 0) := (blk_cell BK154.out 1).trans rfl; have hcz19_2 : w16.cell? ⟨gb154, 2, none⟩ = some (.int .i64 0) := (blk_cell BK154.out 2).trans rfl; have hfz19_0 := blk_frozen BK154.out 0; have hfz19_1 := blk_frozen BK154.out 1; have hfz19_2 := blk_frozen BK154.out 2)))
     refine bodyPost_ret (results_cell_row rfl _ _ gb154 39 #[.int .u32 t161, .int .u32 t162, .int .i64 t163] (0, 0) _ rfl (by (with_reducible repeat (first | refine blk_drewN ?_ _ | refine blk_drew ?_ | refine blk_alloc ?_ _)); refine blk_put (cs := #[.int .u32 t161, .int .u32 t162, .int .i64 0]) ?_ 2 _ (by first | rfl | (simp; done)); (with_reducible repeat (first | refine blk_drewN ?_ _ | refine blk_drew ?_ | refine blk_alloc ?_ _)); refine blk_put (cs := #[.int .u32 t161, .int .u32 0, .int .i64 0]) ?_ 1 _ (by first | rfl | (simp; done)); (with_reducible repeat (first | refine blk_drewN ?_ _ | refine blk_drew ?_ | refine blk_alloc ?_ _)); refine blk_put (cs := #[.int .u32 0, .int .u32 0, .int .i64 0]) ?_ 0 _ (by first | rfl | (simp; done)); (with_reducible repeat (first | refine blk_drewN ?_ _ | refine blk_drew ?_ | refine blk_alloc ?_ _)); refine blk_far ?_ NB154_165.out _; (with_reducible repeat (first | refine blk_drewN ?_ _ | refine blk_drew ?_ | refine blk_alloc ?_ _)); refine blk_far ?_ NB154_165.out _; (with_reducible repeat (first | refine blk_drewN ?_ _ | refine blk_drew ?_ | refine blk_alloc ?_ _)); refine blk_far ?_ NB154_165.out _; (with_reducible repeat (first | refine blk_drewN ?_ _ | refine blk_drew ?_ | refine blk_alloc ?_ _)); exact BK154.out) Try.underlying39 rfl (by kernel_rfl)) rfl ?_
     exact ⟨by first | rfl | (simp [errW_none, errW_some] <;> rfl) | (simp [*, errW_none, errW_some] <;> rfl), by repeat (first | (with_reducible first | exact HB.out | apply below_alloc | apply pw_below_drewN | apply below_drew1 | refine below_set ?_ GE154.out | refine below_set ?_ GE165.out) | exact HB.out)⟩
 ·rw [if_neg c2] at H
  exact absurd H (by simp)

-- NOT PRINTED: function 58 (api_Row_58)

/-! ### cell_quarters_1: function 92 -/
attribute [local go_sem] Oper.semAt_some
/-- A quarter as the iterator hands it on: its number, and its three cells. -/
abbrev qEncs (p : Int × Int × Int × Int) : Array Value := #[.int .i64 p.1, .agg #[.int .u32 p.2.1, .int .u32 p.2.2.1, .int .i64 p.2.2.2]]

/-- Quarter k of a cell whose half is m. -/
def qAt (x y l m : Int) : Nat → Int × Int × Int × Int
 | 0 => (0, x, y, l - 1)
 | 1 => (1, x + m, y, l - 1)
 | 2 => (2, x, y + m, l - 1)
 | _ => (3, x + m, y + m, l - 1)
/-- The quarters that the iterator goes through. -/
def qList (x y l : Int) : List (Int × Int × Int × Int) := if cell_Right.f x y l = some true ∧ l ≠ 0 then (List.range 4).map (qAt x y l (shl .u64 1 l / 2)) else []

set_option maxRecDepth 100000 in
set_option maxHeartbeats 4000000 in
theorem cell_quarters.go (l' Bc n₀ : Nat) (x y l t : Int) (hl : 0 < l) (hl1 : l ≤ 31) (hx : 0 ≤ x ∧ x < 2147483648) (hy : 0 ≤ y ∧ y < 2147483648) (ht : 2 ≤ t ∧ t ≤ 2147483648) (hS : cell_size.f x y l = some t) (hR : cell_Right.f x y l = some true) (J Jx : List (Int × Int × Int × Int) → World → Prop)
  (hY : ∀ pre q W, J pre W → pre.length < 4 → YieldAt Fence.wide 7 Try.prog l' (qEncs q) W fun e W' =>
   (e = .returned (.bool true) ∧ J (pre ++ [q]) W' ∧ Below n₀ W W') ∨ (e = .returned (.bool false) ∧ Jx (pre ++ [q]) W'))
  (W : World) (hB : Bc < n₀) (hn₀ : n₀ ≤ W.heap.size) (hc : ∀ W', Below n₀ W W' → W'.cell? ⟨Bc, 0, none⟩ = some (.int .u32 x) ∧ W'.cell? ⟨Bc, 1, none⟩ = some (.int .u32 y) ∧ W'.cell? ⟨Bc, 2, none⟩ = some (.int .i64 l)) (h0 : J [] W)
  (hJa : AbidesFrom W.heap.size J) :
  CallsIn Fence.wide 8 Try.prog 92 #[.func (.yield l') #[] #[], .pointer (some ⟨Bc, 0, none⟩)] W fun e W' => (∃ v, e = .returned v) ∧
   ((∃ ys, ys = (List.range 4).map (qAt x y l (t / 2)) ∧ J ys W') ∨ (∃ pre, pre <+: (List.range 4).map (qAt x y l (t / 2)) ∧ Jx pre W')) := by
 refine callsIn_of_wp Try.func92 rfl trivial ?_ rfl
 simp only [Try.ntmps92, List.size_toArray, List.length_cons, List.length_nil, Nat.reduceAdd, Nat.reduceSub, Array.replicate_succ, Array.replicate_zero, List.push_toArray, List.append_toArray, List.nil_append, List.cons_append]
 obtain ⟨c0, c1, c2⟩ := hc W (Below.refl _ _)
 obtain ⟨hx0, hx1⟩ := hx
 obtain ⟨hy0, hy1⟩ := hy
 obtain ⟨ht0, ht1⟩ := ht
 have HR := Aside0.mk hR
 have HS := Aside0.mk hS
 have f13 : Fence.wide.fn 66 := trivial
 have f35 : Fence.wide.fn 80 := trivial
 have hne : (l == 0) = false := beq_eq_false_iff_ne.2 (by omega)
 have HC := Aside0.mk hc
 have HJ := Aside0.mk hJa
 clear hR hc hJa hS
 have hJt : ∀ pre (A B : World), J pre A → Below A.heap.size A B → J pre B := fun pre A B hA hAB => HJ.out pre A B none hA (grown_of_below hAB none) (by simp)
 have HJt := Aside0.mk hJt
 have HY := Aside0.mk hY
 clear hJt hY
 gi_wp2_with (first | (gi_at_call 66; refine (callsIn_wide.2 (cell_Right.calls x y l true _ HR.out)).mono ?_; rintro e w1 ⟨rfl, hb1⟩; obtain ⟨hc1, hf1⟩ := bcell hb1; have k0 := (hc1 Bc 0 (by omega)).trans c0; have k1 := (hc1 Bc 1 (by omega)).trans c1; have k2 := (hc1 Bc 2 (by omega)).trans c2; clear hc1 hf1) | (gi_at_call 80; refine (callsIn_wide.2 (cell_size.calls x y l _ _ HS.out)).mono ?_; rintro e w2 ⟨rfl, hb2⟩))
 have HB2 := Aside0.mk (below_call hb1 hb2)
 clear c0 c1 c2 k0 k1 k2 hb1 hb2
 have i0 : ∀ w, (Instr.index 128 (.agg #[.int .u32 0, .int .u32 0, .int .u32 1, .int .u32 0, .int .u32 0, .int .u32 1, .int .u32 1, .int .u32 1]) (.int .i64 0)).run Try.prog w = .ok (.agg #[.int .u32 0, .int .u32 0]) w := fun _ => by kernel_rfl
 have i1 : ∀ w, (Instr.index 128 (.agg #[.int .u32 0, .int .u32 0, .int .u32 1, .int .u32 0, .int .u32 0, .int .u32 1, .int .u32 1, .int .u32 1]) (.int .i64 1)).run Try.prog w = .ok (.agg #[.int .u32 1, .int .u32 0]) w := fun _ => by kernel_rfl
 have i2 : ∀ w, (Instr.index 128 (.agg #[.int .u32 0, .int .u32 0, .int .u32 1, .int .u32 0, .int .u32 0, .int .u32 1, .int .u32 1, .int .u32 1]) (.int .i64 2)).run Try.prog w = .ok (.agg #[.int .u32 0, .int .u32 1]) w := fun _ => by kernel_rfl
 have i3 : ∀ w, (Instr.index 128 (.agg #[.int .u32 0, .int .u32 0, .int .u32 1, .int .u32 0, .int .u32 0, .int .u32 1, .int .u32 1, .int .u32 1]) (.int .i64 3)).run Try.prog w = .ok (.agg #[.int .u32 1, .int .u32 1]) w := fun _ => by kernel_rfl
 gi_loopw [23] (fun i wr => ∃ k : Nat, k ≤ 4 ∧ i = .int .i64 k ∧ Aside0 (J ((List.range k).map (qAt x y l (t / 2))) wr) ∧ Aside0 (Below n₀ W wr))
  (fun i _ => 4 - (intOf i).toNat)
 case atStart => exact ⟨0, Nat.zero_le _, rfl, ⟨HJt.out _ _ _ h0 HB2.out⟩, ⟨HB2.out.mono hn₀⟩⟩
 case round =>
  obtain ⟨k, hk, rfl, hJs, hnx⟩ := hrel
  have hn2 : n₀ ≤ wr.heap.size := Nat.le_trans hn₀ hnx.out.size
  have hk5 : k = 0 ∨ k = 1 ∨ k = 2 ∨ k = 3 ∨ k = 4 := by omega
  rcases hk5 with rfl | rfl | rfl | rfl | rfl
  ·obtain ⟨c0, c1, c2⟩ := HC.out _ (hnx.out.alloc hn2 (.cells #[.int .u32 0, .int .u32 0] 127))
   obtain ⟨fn, tmps, assign, body, hy, hR⟩ := HY.out _ (qAt x y l (t / 2) 0) (wr.alloc (.cells #[.int .u32 0, .int .u32 0] 127)) (HJt.out _ _ _ hJs.out ((Below.refl _ _).alloc (Nat.le_refl _) _)) (by simp)
   dsimp only [qEncs, qAt] at hy
   gi_wp2_with fail
   refine hR.mono ?_
   rintro e W3 (⟨rfl, hJ3, hk3⟩ | ⟨rfl, hJx3⟩)
   ·have HJ3 := Aside0.mk hJ3
    have HK3 := Aside0.mk hk3
    clear hJ3 hk3 hy hR c0 c1 c2
    gi_wp2_with fail
    go_roundw
    case rel => exact ⟨0 + 1, by omega, by simp, ⟨by rw [List.range_succ, List.map_append]; exact HJ3.out⟩, ⟨(hnx.out.alloc hn2 _).trans HK3.out⟩⟩
    case measure => simp [intOf]
   ·have HJ3 := Aside0.mk hJx3
    clear hJx3 hy hR c0 c1 c2
    gi_wp2_with fail
    refine bodyPost_ret (results_none rfl _ _ _) rfl ?_
    exact ⟨⟨_, rfl⟩, .inr ⟨_, by rw [show [qAt x y l (t / 2) 0] = List.map (qAt x y l (t / 2)) [0] from rfl, ← List.map_append, ← List.range_succ]; exact List.IsPrefix.map _ (by decide), HJ3.out⟩⟩
  ·obtain ⟨c0, c1, c2⟩ := HC.out _ (hnx.out.alloc hn2 (.cells #[.int .u32 1, .int .u32 0] 127))
   obtain ⟨fn, tmps, assign, body, hy, hR⟩ := HY.out _ (qAt x y l (t / 2) 1) (wr.alloc (.cells #[.int .u32 1, .int .u32 0] 127)) (HJt.out _ _ _ hJs.out ((Below.refl _ _).alloc (Nat.le_refl _) _)) (by simp)
   dsimp only [qEncs, qAt] at hy
   gi_wp2_with fail
   refine hR.mono ?_
   rintro e W3 (⟨rfl, hJ3, hk3⟩ | ⟨rfl, hJx3⟩)
   ·have HJ3 := Aside0.mk hJ3
    have HK3 := Aside0.mk hk3
    clear hJ3 hk3 hy hR c0 c1 c2
    gi_wp2_with fail
    go_roundw
    case rel => exact ⟨1 + 1, by omega, by simp, ⟨by rw [List.range_succ, List.map_append]; exact HJ3.out⟩, ⟨(hnx.out.alloc hn2 _).trans HK3.out⟩⟩
    case measure => simp [intOf]
   ·have HJ3 := Aside0.mk hJx3
    clear hJx3 hy hR c0 c1 c2
    gi_wp2_with fail
    refine bodyPost_ret (results_none rfl _ _ _) rfl ?_
    exact ⟨⟨_, rfl⟩, .inr ⟨_, by rw [show [qAt x y l (t / 2) 1] = List.map (qAt x y l (t / 2)) [1] from rfl, ← List.map_append, ← List.range_succ]; exact List.IsPrefix.map _ (by decide), HJ3.out⟩⟩
  ·obtain ⟨c0, c1, c2⟩ := HC.out _ (hnx.out.alloc hn2 (.cells #[.int .u32 0, .int .u32 1] 127))
   obtain ⟨fn, tmps, assign, body, hy, hR⟩ := HY.out _ (qAt x y l (t / 2) 2) (wr.alloc (.cells #[.int .u32 0, .int .u32 1] 127)) (HJt.out _ _ _ hJs.out ((Below.refl _ _).alloc (Nat.le_refl _) _)) (by simp)
   dsimp only [qEncs, qAt] at hy
   gi_wp2_with fail
   refine hR.mono ?_
   rintro e W3 (⟨rfl, hJ3, hk3⟩ | ⟨rfl, hJx3⟩)
   ·have HJ3 := Aside0.mk hJ3
    have HK3 := Aside0.mk hk3
    clear hJ3 hk3 hy hR c0 c1 c2
    gi_wp2_with fail
    go_roundw
    case rel => exact ⟨2 + 1, by omega, by simp, ⟨by rw [List.range_succ, List.map_append]; exact HJ3.out⟩, ⟨(hnx.out.alloc hn2 _).trans HK3.out⟩⟩
    case measure => simp [intOf]
   ·have HJ3 := Aside0.mk hJx3
    clear hJx3 hy hR c0 c1 c2
    gi_wp2_with fail
    refine bodyPost_ret (results_none rfl _ _ _) rfl ?_
    exact ⟨⟨_, rfl⟩, .inr ⟨_, by rw [show [qAt x y l (t / 2) 2] = List.map (qAt x y l (t / 2)) [2] from rfl, ← List.map_append, ← List.range_succ]; exact List.IsPrefix.map _ (by decide), HJ3.out⟩⟩
  ·obtain ⟨c0, c1, c2⟩ := HC.out _ (hnx.out.alloc hn2 (.cells #[.int .u32 1, .int .u32 1] 127))
   obtain ⟨fn, tmps, assign, body, hy, hR⟩ := HY.out _ (qAt x y l (t / 2) 3) (wr.alloc (.cells #[.int .u32 1, .int .u32 1] 127)) (HJt.out _ _ _ hJs.out ((Below.refl _ _).alloc (Nat.le_refl _) _)) (by simp)
   dsimp only [qEncs, qAt] at hy
   gi_wp2_with fail
   refine hR.mono ?_
   rintro e W3 (⟨rfl, hJ3, hk3⟩ | ⟨rfl, hJx3⟩)
   ·have HJ3 := Aside0.mk hJ3
    have HK3 := Aside0.mk hk3
    clear hJ3 hk3 hy hR c0 c1 c2
    gi_wp2_with fail
    go_roundw
    case rel => exact ⟨3 + 1, by omega, by simp, ⟨by rw [List.range_succ, List.map_append]; exact HJ3.out⟩, ⟨(hnx.out.alloc hn2 _).trans HK3.out⟩⟩
    case measure => simp [intOf]
   ·have HJ3 := Aside0.mk hJx3
    clear hJx3 hy hR c0 c1 c2
    gi_wp2_with fail
    refine bodyPost_ret (results_none rfl _ _ _) rfl ?_
    exact ⟨⟨_, rfl⟩, .inr ⟨_, by rw [show [qAt x y l (t / 2) 3] = List.map (qAt x y l (t / 2)) [3] from rfl, ← List.map_append, ← List.range_succ]; exact List.IsPrefix.map _ (by decide), HJ3.out⟩⟩
  ·gi_wp2_with fail
   go_end0
   exact ⟨⟨_, rfl⟩, .inl ⟨_, rfl, hJs.out⟩⟩

theorem cell_Right.tot (x y l : Int) : ∃ b, cell_Right.f x y l = some b := by
 unfold cell_Right.f cell_size.f
 by_cases h1 : l < 0
 ·exact ⟨_, if_pos h1⟩
 ·rw [if_neg h1]
  by_cases h2 : l > 31
  ·exact ⟨_, if_pos h2⟩
  ·rw [if_neg h2, if_pos (by omega)]
   simp only [Option.bind_some]
   split <;> exact ⟨_, rfl⟩
theorem cell_Right.bd {x y l : Int} (h : cell_Right.f x y l = some true) : 0 ≤ l ∧ l ≤ 31 ∧ x < 2147483648 ∧ y < 2147483648 := by
 unfold cell_Right.f cell_size.f at h
 by_cases h1 : l < 0
 ·rw [if_pos h1] at h; simp at h
 ·rw [if_neg h1] at h
  by_cases h2 : l > 31
  ·rw [if_pos h2] at h; simp at h
  ·rw [if_neg h2, if_pos (by omega)] at h
   simp only [Option.bind_some] at h
   split at h
   ·have := Option.some.inj h
    have := of_decide_eq_true this
    unfold mx at this
    omega
   ·simp at h
theorem shl_pow (l : Int) (h0 : 0 ≤ l) (h1 : l ≤ 31) : shl .u64 1 l = 2 ^ l.toNat := by
 obtain ⟨n, rfl⟩ := Int.eq_ofNat_of_zero_le h0
 have hn : n ≤ 31 := by omega
 unfold shl
 simp only [Int.toNat_natCast]
 have : n = 0 ∨ n = 1 ∨ n = 2 ∨ n = 3 ∨ n = 4 ∨ n = 5 ∨ n = 6 ∨ n = 7 ∨ n = 8 ∨ n = 9 ∨ n = 10 ∨ n = 11 ∨ n = 12 ∨ n = 13 ∨ n = 14 ∨ n = 15 ∨ n = 16 ∨ n = 17 ∨ n = 18 ∨ n = 19 ∨ n = 20 ∨ n = 21 ∨ n = 22 ∨ n = 23 ∨ n = 24 ∨ n = 25 ∨ n = 26 ∨ n = 27 ∨ n = 28 ∨ n = 29 ∨ n = 30 ∨ n = 31 := by omega
 rcases this with rfl|rfl|rfl|rfl|rfl|rfl|rfl|rfl|rfl|rfl|rfl|rfl|rfl|rfl|rfl|rfl|rfl|rfl|rfl|rfl|rfl|rfl|rfl|rfl|rfl|rfl|rfl|rfl|rfl|rfl|rfl|rfl <;> decide +kernel
theorem two_pow (n : Nat) : (2 : Int) ^ n = ((2 ^ n : Nat) : Int) := by simp
theorem shl_bd (l : Int) (h0 : 1 ≤ l) (h1 : l ≤ 31) : 2 ≤ shl .u64 1 l ∧ shl .u64 1 l ≤ 2147483648 := by
 rw [shl_pow l (by omega) h1]
 obtain ⟨n, rfl⟩ := Int.eq_ofNat_of_zero_le (show 0 ≤ l by omega)
 simp only [Int.toNat_natCast]
 have a1 : 2 ^ 1 ≤ 2 ^ n := Nat.pow_le_pow_right (by decide) (by omega)
 have a2 : 2 ^ n ≤ 2 ^ 31 := Nat.pow_le_pow_right (by decide) (by omega)
 rw [two_pow]
 omega

set_option maxRecDepth 100000 in
set_option maxHeartbeats 4000000 in
theorem cell_quarters.no (l' Bc : Nat) (x y l : Int) (b : Bool) (hR : cell_Right.f x y l = some b) (hb : b = false ∨ l = 0)
  (W : World) (hB : Bc < W.heap.size) (c0 : W.cell? ⟨Bc, 0, none⟩ = some (.int .u32 x)) (c1 : W.cell? ⟨Bc, 1, none⟩ = some (.int .u32 y)) (c2 : W.cell? ⟨Bc, 2, none⟩ = some (.int .i64 l)) :
  CallsIn Fence.wide 8 Try.prog 92 #[.func (.yield l') #[] #[], .pointer (some ⟨Bc, 0, none⟩)] W fun e W' => (∃ v, e = .returned v) ∧ Below W.heap.size W W' := by
 refine callsIn_of_wp Try.func92 rfl trivial ?_ rfl
 simp only [Try.ntmps92, List.size_toArray, List.length_cons, List.length_nil, Nat.reduceAdd, Nat.reduceSub, Array.replicate_succ, Array.replicate_zero, List.push_toArray, List.append_toArray, List.nil_append, List.cons_append]
 have HR := Aside0.mk hR
 have f13 : Fence.wide.fn 66 := trivial
 clear hR
 cases b with
 | false =>
  clear hb
  gi_wp2_with (gi_at_call 66; refine (callsIn_wide.2 (cell_Right.calls x y l false _ HR.out)).mono ?_; rintro e w1 ⟨rfl, hb1⟩)
  refine bodyPost_ret (results_none rfl _ _ _) rfl ?_
  exact ⟨⟨_, rfl⟩, hb1⟩
 | true =>
  obtain rfl : l = 0 := by simpa using hb
  clear hb
  gi_wp2_with (gi_at_call 66; refine (callsIn_wide.2 (cell_Right.calls x y 0 true _ HR.out)).mono ?_; rintro e w1 ⟨rfl, hb1⟩; obtain ⟨hc1, hf1⟩ := bcell hb1; have k0 := (hc1 Bc 0 (by omega)).trans c0; have k1 := (hc1 Bc 1 (by omega)).trans c1; have k2 := (hc1 Bc 2 (by omega)).trans c2; clear hc1 hf1)
  refine bodyPost_ret (results_none rfl _ _ _) rfl ?_
  exact ⟨⟨_, rfl⟩, hb1⟩

theorem qList_len (x y l : Int) : (qList x y l).length ≤ 4 := by unfold qList; split <;> simp

theorem cell_quarters.stops (Bc n₀ : Nat) (x y l : Int) (hx : 0 ≤ x) (hy : 0 ≤ y) (w : World) (hB : Bc < n₀) (hn₀ : n₀ ≤ w.heap.size)
  (c0 : w.cell? ⟨Bc, 0, none⟩ = some (.int .u32 x)) (c1 : w.cell? ⟨Bc, 1, none⟩ = some (.int .u32 y)) (c2 : w.cell? ⟨Bc, 2, none⟩ = some (.int .i64 l)) :
  SeqStopsK Fence.wide 8 Try.prog 92 #[.pointer (some ⟨Bc, 0, none⟩)] qEncs (Below n₀) (fun ys => ys = qList x y l) (fun pre => pre <+: qList x y l) 4 w := fun l' J Jx W hW hJ _ hY h0 => by
 have hlt : Bc < w.heap.size := by omega
 have d0 := (hW.cell (p := ⟨Bc, 0, none⟩) hlt).trans c0
 have d1 := (hW.cell (p := ⟨Bc, 1, none⟩) hlt).trans c1
 have d2 := (hW.cell (p := ⟨Bc, 2, none⟩) hlt).trans c2
 obtain ⟨b, hR⟩ := cell_Right.tot x y l
 by_cases hh : b = true ∧ l ≠ 0
 ·obtain ⟨rfl, hl⟩ := hh
  obtain ⟨b0, b1, b2, b3⟩ := cell_Right.bd hR
  obtain ⟨s0, s1⟩ := shl_bd l (by omega) b1
  have hq : qList x y l = (List.range 4).map (qAt x y l (shl .u64 1 l / 2)) := by unfold qList; rw [if_pos ⟨hR, hl⟩]
  rw [hq]
  refine cell_quarters.go l' Bc n₀ x y l (shl .u64 1 l) (by omega) b1 ⟨hx, b2⟩ ⟨hy, b3⟩ ⟨s0, s1⟩ (by unfold cell_size.f; rw [if_pos b0]) hR J Jx hY W hB (Nat.le_trans hn₀ hW.size) (fun W' hW' => ?_) h0 hJ
  exact ⟨(hW'.cell (p := ⟨Bc, 0, none⟩) hB).trans d0, (hW'.cell (p := ⟨Bc, 1, none⟩) hB).trans d1, (hW'.cell (p := ⟨Bc, 2, none⟩) hB).trans d2⟩
 ·have hq : qList x y l = [] := by
   unfold qList; rw [if_neg]; rintro ⟨h1, h2⟩; rw [hR] at h1; exact hh ⟨Option.some.inj h1, h2⟩
  rw [hq]
  refine (cell_quarters.no l' Bc x y l b hR ?_ W (Nat.lt_of_lt_of_le hlt hW.size) d0 d1 d2).mono ?_
  ·cases b with
   | false => exact .inl rfl
   | true => exact .inr (by simpa using hh)
  ·rintro e W' ⟨he, hb⟩
   exact ⟨he, .inl ⟨[], rfl, hJ [] W W' none h0 (grown_of_below hb none) (by simp)⟩⟩

theorem qList_pos {x y l : Int} {q : Int × Int × Int × Int} (h : q ∈ qList x y l) : 0 ≤ q.1 := by
 unfold qList at h
 split at h
 ·rw [List.mem_map] at h
  obtain ⟨k, hk, rfl⟩ := h
  have : k = 0 ∨ k = 1 ∨ k = 2 ∨ k = 3 := by have := List.mem_range.1 hk; omega
  rcases this with rfl | rfl | rfl | rfl <;> simp [qAt]
 ·simp at h


/-! ### cell_quarters: function 76 -/
attribute [local go_sem] Oper.semAt_some
set_option maxHeartbeats 1000000 in
theorem cell_quarters.calls (x y l : Int) (w : World) :
  CallsIn Fence.wide 8 Try.prog 76 #[.agg #[.int .u32 x, .int .u32 y, .int .i64 l]] w fun e w' =>
   e = .returned (.func (.func 92) #[] #[.pointer (some ⟨w.heap.size, 0, none⟩)]) ∧ w.alloc (.cells #[.int .u32 x, .int .u32 y, .int .i64 l] 39) = w' := by
 refine callsIn_of_wp Try.func76 rfl trivial ?_ rfl
 simp only [Try.ntmps76, List.size_toArray, List.length_cons, List.length_nil, Nat.reduceAdd, Nat.reduceSub, Array.replicate_succ, Array.replicate_zero, List.push_toArray, List.append_toArray, List.nil_append, List.cons_append]
 gi_wp2
 go_ret
 exact ⟨rfl, rfl⟩


/-! ### cell_Has: function 77 -/
def cell_Has.f (a0_0 : Int) (a0_1 : Int) (a0_2 : Int) (a1 : Int) (a2 : Int) : Option (Bool) := (cell_Right.f a0_0 a0_1 a0_2).bind fun t167 => (if t167 = true then ((cell_all.f a0_0 a0_1 a0_2).bind fun bt168 => ((cell_In.f bt168.1 bt168.2.1 bt168.2.2.1 bt168.2.2.2 a1 a2).bind fun t172 => (some t172))) else (some false))
set_option maxHeartbeats 8000000 in
set_option maxRecDepth 100000 in
theorem cell_Has.calls (a0_0 : Int) (a0_1 : Int) (a0_2 : Int) (a1 : Int) (a2 : Int) (r : Bool) (w : World) (h : cell_Has.f a0_0 a0_1 a0_2 a1 a2 = some r) :
  Calls Try.prog 77 #[.agg #[.int .u32 a0_0, .int .u32 a0_1, .int .i64 a0_2], .int .u32 a1, .int .u32 a2] w fun e w' => e = .returned (.bool r) ∧ Below w.heap.size w w' := by
 have hu39 := Try.underlying39
 have HB := Aside0.mk (Below.refl w.heap.size w)
 have H : ((cell_Right.f a0_0 a0_1 a0_2).bind fun t167 => (if t167 = true then ((cell_all.f a0_0 a0_1 a0_2).bind fun bt168 => ((cell_In.f bt168.1 bt168.2.1 bt168.2.2.1 bt168.2.2.2 a1 a2).bind fun t172 => (some t172))) else (some false))) = some r := h
 clear h
 replace H := Option.bind_eq_some_iff.mp H
 obtain ⟨t167, A40, H⟩ := H
 replace H : (if t167 = true then ((cell_all.f a0_0 a0_1 a0_2).bind fun bt168 => ((cell_In.f bt168.1 bt168.2.1 bt168.2.2.1 bt168.2.2.2 a1 a2).bind fun t172 => (some t172))) else (some false)) = some r := H
 have A4 := Aside0.mk A40
 clear A40
 by_cases c5 : t167 = true
 ·subst c5
  have H1 : ((cell_all.f a0_0 a0_1 a0_2).bind fun bt168 => ((cell_In.f bt168.1 bt168.2.1 bt168.2.2.1 bt168.2.2.2 a1 a2).bind fun t172 => (some t172))) = some r := by rw [if_pos rfl] at H; exact H
  clear H
  have H := H1
  clear H1
  replace H := Option.bind_eq_some_iff.mp H
  obtain ⟨⟨t168, t169, t170, t171⟩, A60, H⟩ := H
  replace H : ((cell_In.f t168 t169 t170 t171 a1 a2).bind fun t172 => (some t172)) = some r := H
  have A6 := Aside0.mk A60
  clear A60
  replace H := Option.bind_eq_some_iff.mp H
  obtain ⟨t172, A70, H⟩ := H
  replace H : (some t172) = some r := H
  have A7 := Aside0.mk A70
  clear A70
  obtain rfl := Option.some.inj H
  go_enter Try.func77, Try.ntmps77
  go_wp2_with (first | ((with_reducible refine gate_dst (N := 3) rfl ?_); refine box_event ?hg (N := 3) ?hd (cs := #[.int .u32 a0_0, .int .u32 a0_1, .int .i64 a0_2]) (t := 39) ?hr ?_; (case hd => rfl); (case hg => rfl); (case hr => first | (go_simp; done) | (go_simp; rfl)); intro gb166 hg w8 hbox hb; have n0_ := Aside0.mk (below_step (by repeat (first | (with_reducible first | exact HB.out | apply below_alloc | apply pw_below_drewN | apply below_drew1) | exact HB.out)) hb); have n1_ := Aside0.mk (hbox); have n2_ := Aside0.mk ((by rw [hg]; exact (below_size (by repeat (first | (with_reducible first | exact HB.out | apply below_alloc | apply pw_below_drewN | apply below_drew1) | exact HB.out))) : w.heap.size ≤ gb166)); have n3_ := Aside0.mk ((by rw [hg]; exact (below_size (by repeat (first | (with_reducible first | exact HB.out | apply below_alloc | apply pw_below_drewN | apply below_drew1) | exact HB.out))) : w.heap.size ≤ gb166)); clear HB; have HB := n0_; have BK166 := n1_; have GW166 := n2_; have GE166 := n3_; clear n0_ n1_ n2_ n3_; clear hb hbox hg; have hcz9_0 : w8.cell? ⟨gb166, 0, none⟩ = some (.int .u32 a0_0) := (blk_cell BK166.out 0).trans rfl; have hcz9_1 : w8.cell? ⟨gb166, 1, none⟩ = some (.int .u32 a0_1) := (blk_cell BK166.out 1).trans rfl; have hcz9_2 : w8.cell? ⟨gb166, 2, none⟩ = some (.int .i64 a0_2) := (blk_cell BK166.out 2).trans rfl; have hfz9_0 := blk_frozen BK166.out 0; have hfz9_1 := blk_frozen BK166.out 1; have hfz9_2 := blk_frozen BK166.out 2) | ((with_reducible refine gate_callee (f := 66) rfl ?_); refine goesL_ (some 8) rfl rfl Try.func66 (by kernel_rfl) rfl #[.agg #[.int .u32 a0_0, .int .u32 a0_1, .int .i64 a0_2]] rfl (by (try simp only [List.map_toArray, List.map_cons, List.map_nil]); first | done | rfl | (simp only [List.length_drop, List.length_take]; rfl)) ?_; (with_reducible refine (cell_Right.calls a0_0 a0_1 a0_2 true _ A4.out).mono ?_); rintro e w10 ⟨rfl, hb⟩; refine ⟨_, rfl, ?_⟩; have n0_ := Aside0.mk (blk_below (g := gb166) (o := .cells #[.int .u32 a0_0, .int .u32 a0_1, .int .i64 a0_2] 39 (0, 0)) (by (with_reducible repeat (first | refine blk_drewN ?_ _ | refine blk_drew ?_ | refine blk_alloc ?_ _)); exact BK166.out) hb); have n1_ := Aside0.mk (below_step (by repeat (first | (with_reducible first | exact HB.out | apply below_alloc | apply pw_below_drewN | apply below_drew1 | refine below_set ?_ GE166.out) | exact HB.out)) hb); clear BK166; clear HB; have BK166 := n0_; have HB := n1_; clear n0_ n1_; (try clear hb); (try clear hb2); (try clear hk); (try clear hi); have hcz11_0 : w10.cell? ⟨gb166, 0, none⟩ = some (.int .u32 a0_0) := (blk_cell BK166.out 0).trans rfl; have hcz11_1 : w10.cell? ⟨gb166, 1, none⟩ = some (.int .u32 a0_1) := (blk_cell BK166.out 1).trans rfl; have hcz11_2 : w10.cell? ⟨gb166, 2, none⟩ = some (.int .i64 a0_2) := (blk_cell BK166.out 2).trans rfl; have hfz11_0 := blk_frozen BK166.out 0; have hfz11_1 := blk_frozen BK166.out 1; have hfz11_2 := blk_frozen BK166.out 2) | (go_at_call 67; (with_reducible refine (cell_all.calls a0_0 a0_1 a0_2 t168 t169 t170 t171 _ A6.out).mono ?_); rintro e w12 ⟨rfl, hb⟩; have n0_ := Aside0.mk (blk_below (g := gb166) (o := .cells #[.int .u32 a0_0, .int .u32 a0_1, .int .i64 a0_2] 39 (0, 0)) (by (with_reducible repeat (first | refine blk_drewN ?_ _ | refine blk_drew ?_ | refine blk_alloc ?_ _)); exact BK166.out) hb); have n1_ := Aside0.mk (below_step (by repeat (first | (with_reducible first | exact HB.out | apply below_alloc | apply pw_below_drewN | apply below_drew1 | refine below_set ?_ GE166.out) | exact HB.out)) hb); clear BK166; clear HB; have BK166 := n0_; have HB := n1_; clear n0_ n1_; (try clear hb); (try clear hb2); (try clear hk); (try clear hi)) | (go_at_call 38; (with_reducible refine (cell_In.calls t168 t169 t170 t171 a1 a2 t172 _ A7.out).mono ?_); rintro e w13 ⟨rfl, hb⟩; have n0_ := Aside0.mk (blk_below (g := gb166) (o := .cells #[.int .u32 a0_0, .int .u32 a0_1, .int .i64 a0_2] 39 (0, 0)) (by (with_reducible repeat (first | refine blk_drewN ?_ _ | refine blk_drew ?_ | refine blk_alloc ?_ _)); exact BK166.out) hb); have n1_ := Aside0.mk (below_step (by repeat (first | (with_reducible first | exact HB.out | apply below_alloc | apply pw_below_drewN | apply below_drew1 | refine below_set ?_ GE166.out) | exact HB.out)) hb); clear BK166; clear HB; have BK166 := n0_; have HB := n1_; clear n0_ n1_; (try clear hb); (try clear hb2); (try clear hk); (try clear hi)))
  go_ret
  exact ⟨by first | rfl | (simp [errW_none, errW_some] <;> rfl) | (simp [*, errW_none, errW_some] <;> rfl), by repeat (first | (with_reducible first | exact HB.out | apply below_alloc | apply pw_below_drewN | apply below_drew1 | refine below_set ?_ GE166.out) | exact HB.out)⟩
 ·replace c5 := Bool.eq_false_iff.mpr c5
  subst c5
  have H1 : (some false) = some r := by rw [if_neg (show ¬ (false = true) by decide)] at H; exact H
  clear H
  have H := H1
  clear H1
  obtain rfl := Option.some.inj H
  go_enter Try.func77, Try.ntmps77
  go_wp2_with (first | ((with_reducible refine gate_dst (N := 3) rfl ?_); refine box_event ?hg (N := 3) ?hd (cs := #[.int .u32 a0_0, .int .u32 a0_1, .int .i64 a0_2]) (t := 39) ?hr ?_; (case hd => rfl); (case hg => rfl); (case hr => first | (go_simp; done) | (go_simp; rfl)); intro gb166 hg w14 hbox hb; have n0_ := Aside0.mk (below_step (by repeat (first | (with_reducible first | exact HB.out | apply below_alloc | apply pw_below_drewN | apply below_drew1) | exact HB.out)) hb); have n1_ := Aside0.mk (hbox); have n2_ := Aside0.mk ((by rw [hg]; exact (below_size (by repeat (first | (with_reducible first | exact HB.out | apply below_alloc | apply pw_below_drewN | apply below_drew1) | exact HB.out))) : w.heap.size ≤ gb166)); have n3_ := Aside0.mk ((by rw [hg]; exact (below_size (by repeat (first | (with_reducible first | exact HB.out | apply below_alloc | apply pw_below_drewN | apply below_drew1) | exact HB.out))) : w.heap.size ≤ gb166)); clear HB; have HB := n0_; have BK166 := n1_; have GW166 := n2_; have GE166 := n3_; clear n0_ n1_ n2_ n3_; clear hb hbox hg; have hcz15_0 : w14.cell? ⟨gb166, 0, none⟩ = some (.int .u32 a0_0) := (blk_cell BK166.out 0).trans rfl; have hcz15_1 : w14.cell? ⟨gb166, 1, none⟩ = some (.int .u32 a0_1) := (blk_cell BK166.out 1).trans rfl; have hcz15_2 : w14.cell? ⟨gb166, 2, none⟩ = some (.int .i64 a0_2) := (blk_cell BK166.out 2).trans rfl; have hfz15_0 := blk_frozen BK166.out 0; have hfz15_1 := blk_frozen BK166.out 1; have hfz15_2 := blk_frozen BK166.out 2) | ((with_reducible refine gate_callee (f := 66) rfl ?_); refine goesL_ (some 8) rfl rfl Try.func66 (by kernel_rfl) rfl #[.agg #[.int .u32 a0_0, .int .u32 a0_1, .int .i64 a0_2]] rfl (by (try simp only [List.map_toArray, List.map_cons, List.map_nil]); first | done | rfl | (simp only [List.length_drop, List.length_take]; rfl)) ?_; (with_reducible refine (cell_Right.calls a0_0 a0_1 a0_2 false _ A4.out).mono ?_); rintro e w16 ⟨rfl, hb⟩; refine ⟨_, rfl, ?_⟩; have n0_ := Aside0.mk (blk_below (g := gb166) (o := .cells #[.int .u32 a0_0, .int .u32 a0_1, .int .i64 a0_2] 39 (0, 0)) (by (with_reducible repeat (first | refine blk_drewN ?_ _ | refine blk_drew ?_ | refine blk_alloc ?_ _)); exact BK166.out) hb); have n1_ := Aside0.mk (below_step (by repeat (first | (with_reducible first | exact HB.out | apply below_alloc | apply pw_below_drewN | apply below_drew1 | refine below_set ?_ GE166.out) | exact HB.out)) hb); clear BK166; clear HB; have BK166 := n0_; have HB := n1_; clear n0_ n1_; (try clear hb); (try clear hb2); (try clear hk); (try clear hi)))
  go_ret
  exact ⟨by first | rfl | (simp [errW_none, errW_some] <;> rfl) | (simp [*, errW_none, errW_some] <;> rfl), by repeat (first | (with_reducible first | exact HB.out | apply below_alloc | apply pw_below_drewN | apply below_drew1 | refine below_set ?_ GE166.out) | exact HB.out)⟩

/-! ### cell_Where: function 59 -/
attribute [local go_sem] Oper.semAt_some
theorem cell_In.tot (a b c d u v : Int) : ∃ r, cell_In.f a b c d u v = some r := by
 unfold cell_In.f cell_RightBox.f
 repeat' split
 all_goals simp only [Option.bind_some]
 all_goals (repeat' split)
 all_goals exact ⟨_, rfl⟩
theorem cell_Has.tot (x y l u v : Int) : ∃ b, cell_Has.f x y l u v = some b := by
 unfold cell_Has.f
 obtain ⟨b, hb⟩ := cell_Right.tot x y l
 rw [hb]
 simp only [Option.bind_some]
 cases b with
 | false => exact ⟨_, if_neg (by simp)⟩
 | true =>
  obtain ⟨h0, h1, _⟩ := cell_Right.bd hb
  rw [if_pos rfl]
  unfold cell_all.f cell_size.f
  rw [if_pos h0]
  simp only [Option.bind_some]
  obtain ⟨r, hr⟩ := cell_In.tot x y ((x + IntKind.u64.wrap (shl .u64 1 l - 1)) % 4294967296) ((y + IntKind.u64.wrap (shl .u64 1 l - 1)) % 4294967296) u v
  rw [hr]
  exact ⟨r, rfl⟩

/-- Has a quarter the point? -/
def qHas (u v : Int) (q : Int × Int × Int × Int) : Bool := decide (cell_Has.f q.2.1 q.2.2.1 q.2.2.2 u v = some true)
def cell_Where.f (a0_0 a0_1 a0_2 a1 a2 : Int) : Option (Int × Int) :=
 if 0 ≤ a0_0 ∧ 0 ≤ a0_1 then some (match (qList a0_0 a0_1 a0_2).find? (qHas a1 a2) with | some q => (q.1, 0) | none => (0, 2)) else none

set_option maxRecDepth 100000 in
set_option maxHeartbeats 4000000 in
theorem cell_Where.calls (a0_0 a0_1 a0_2 a1 a2 r1 r2 : Int) (w : World) (h : cell_Where.f a0_0 a0_1 a0_2 a1 a2 = some (r1, r2)) :
  Calls Try.prog 59 #[.agg #[.int .u32 a0_0, .int .u32 a0_1, .int .i64 a0_2], .int .u32 a1, .int .u32 a2] w fun e w' => e = .returned (.tuple #[.int .i64 r1, .int .i64 r2]) ∧ Below w.heap.size w w' := by
 unfold cell_Where.f at h
 split at h
 case isFalse => exact absurd h (by simp)
 rename_i hh
 obtain ⟨hx, hy⟩ := hh
 have H := Aside0.mk (Option.some.inj h)
 clear h
 refine (callsIn_wide (n := 9)).1 ?_
 refine callsIn_of_wp_marks Try.func59 rfl trivial ?_ rfl
 simp only [Try.ntmps59, List.size_toArray, List.length_cons, List.length_nil, Nat.reduceAdd, Nat.reduceSub, Array.replicate_succ, Array.replicate_zero, List.push_toArray, List.append_toArray, List.nil_append, List.cons_append]
 have f39 : Fence.wide.fn 76 := trivial
 gi_wp2_with fail
 refine wpIn_scope_wide ?_
 gi_wp2_with fail
 refine wpIn_label ?_
 gi_wp2_with (gi_at_call 76; refine (CallsIn.mono (cell_quarters.calls a0_0 a0_1 a0_2 _) ?_); rintro e w1 ⟨rfl, rfl⟩)
 obtain ⟨W0, hW0⟩ : ∃ W0 : World, (((((w.alloc (.cells #[.int .u32 a0_0, .int .u32 a0_1, .int .i64 a0_2] 39)).alloc (.cells #[.int .u32 a1] 22)).alloc (.cells #[.int .u32 a2] 22)).alloc (.cells #[.int .i64 (-1)] 3)).alloc (.cells #[.int .u32 a0_0, .int .u32 a0_1, .int .i64 a0_2] 39)) = W0 := ⟨_, rfl⟩
 have hsz : W0.heap.size = w.heap.size + 5 := by rw [← hW0]; simp
 have hB0 : Below w.heap.size w W0 := by
  rw [← hW0]
  exact below_alloc' (below_alloc' (below_alloc' (below_alloc' (below_alloc' (Below.refl _ w) _) _) _) _) _
 have bx : W0.heap[w.heap.size + 1]? = some (.cells #[.int .u32 a1] 22 (0, 0)) := by
  rw [← hW0]
  have := boxc_alloc (boxc_alloc (boxc_alloc (boxc_new (w.alloc (.cells #[.int .u32 a0_0, .int .u32 a0_1, .int .i64 a0_2] 39)) #[.int .u32 a1] 22) (.cells #[.int .u32 a2] 22)) (.cells #[.int .i64 (-1)] 3)) (.cells #[.int .u32 a0_0, .int .u32 a0_1, .int .i64 a0_2] 39)
  simpa using this
 have by' : W0.heap[w.heap.size + 1 + 1]? = some (.cells #[.int .u32 a2] 22 (0, 0)) := by
  rw [← hW0]
  have := boxc_alloc (boxc_alloc (boxc_new ((w.alloc (.cells #[.int .u32 a0_0, .int .u32 a0_1, .int .i64 a0_2] 39)).alloc (.cells #[.int .u32 a1] 22)) #[.int .u32 a2] 22) (.cells #[.int .i64 (-1)] 3)) (.cells #[.int .u32 a0_0, .int .u32 a0_1, .int .i64 a0_2] 39)
  simpa using this
 have bat : W0.heap[w.heap.size + 1 + 1 + 1]? = some (.cells #[.int .i64 (-1)] 3 (0, 0)) := by
  rw [← hW0]
  have := boxc_alloc (boxc_new (((w.alloc (.cells #[.int .u32 a0_0, .int .u32 a0_1, .int .i64 a0_2] 39)).alloc (.cells #[.int .u32 a1] 22)).alloc (.cells #[.int .u32 a2] 22)) #[.int .i64 (-1)] 3) (.cells #[.int .u32 a0_0, .int .u32 a0_1, .int .i64 a0_2] 39)
  simpa using this
 have bq : W0.heap[w.heap.size + 1 + 1 + 1 + 1]? = some (.cells #[.int .u32 a0_0, .int .u32 a0_1, .int .i64 a0_2] 39 (0, 0)) := by
  rw [← hW0]
  have := boxc_new ((((w.alloc (.cells #[.int .u32 a0_0, .int .u32 a0_1, .int .i64 a0_2] 39)).alloc (.cells #[.int .u32 a1] 22)).alloc (.cells #[.int .u32 a2] 22)).alloc (.cells #[.int .i64 (-1)] 3)) #[.int .u32 a0_0, .int .u32 a0_1, .int .i64 a0_2] 39
  simpa using this
 rw [hW0]
 clear hW0
 refine wpIn_rangeFunc_ownH (w := W0) rfl (by decide) (gf := 92) (lb := #[.pointer (some ⟨w.heap.size + 1 + 1 + 1 + 1, 0, none⟩)]) rfl trivial (enters_of Try.func92 (by kernel_rfl) rfl)
  (cell_quarters.stops (w.heap.size + 1 + 1 + 1 + 1) W0.heap.size a0_0 a0_1 a0_2 hx hy W0 (by omega) (Nat.le_refl _) (boxc_cell bq 0) (boxc_cell bq 1) (boxc_cell bq 2)) belowK_t (belowK_b (Nat.le_refl _)) (Below.refl _ _) (fun _ => rfl)
  (fun pre W => W.heap[w.heap.size + 1]? = some (.cells #[.int .u32 a1] 22 (0, 0)) ∧ W.heap[w.heap.size + 1 + 1]? = some (.cells #[.int .u32 a2] 22 (0, 0)) ∧ W.heap[w.heap.size + 1 + 1 + 1]? = some (.cells #[.int .i64 (-1)] 3 (0, 0)) ∧ Below w.heap.size w W ∧ W0.heap.size ≤ W.heap.size ∧ pre.find? (qHas a1 a2) = none)
  (fun c pre W => c = .exit 0 ∧ ∃ q, pre.find? (qHas a1 a2) = some q ∧ W.heap[w.heap.size + 1 + 1 + 1]? = some (.cells #[.int .i64 q.1] 3 (0, 0)) ∧ Below w.heap.size w W)
  (fun s X Y row ⟨h1, h2, h3, h4, h5, h6⟩ hg hr => ⟨boxc_keep h1 hg hr, boxc_keep h2 hg hr, boxc_keep h3 hg hr, below_keep h4 hg hr (by omega), size_keep h5 hg, h6⟩)
  (fun c s X Y row ⟨h1, q, h2, h3, h4⟩ hg hr => ⟨h1, q, h2, boxc_keep h3 hg hr, below_keep h4 hg hr (by omega)⟩)
  ⟨bx, by', bat, hB0, Nat.le_refl _, rfl⟩
  (fun q a' W => ∃ Bx, W0.heap.size ≤ Bx ∧ W.heap[Bx]? = some (.cells #[.int .u32 q.2.1, .int .u32 q.2.2.1, .int .i64 q.2.2.2] 39 (0, 0)) ∧ a' = { tmps := #[.agg #[.int .u32 a0_0, .int .u32 a0_1, .int .i64 a0_2], .int .u32 a1, .int .u32 a2, .pointer (some ⟨w.heap.size, 0, none⟩), .pointer (some ⟨w.heap.size + 1, 0, none⟩), .pointer (some ⟨w.heap.size + 1 + 1, 0, none⟩), .int .i64 0, .int .i64 0, .pointer (some ⟨w.heap.size + 1 + 1 + 1, 0, none⟩), .int .i64 q.1, .pointer (some ⟨Bx, 0, none⟩), .agg #[.int .u32 a0_0, .int .u32 a0_1, .int .i64 a0_2], .func (.func 92) #[] #[.pointer (some ⟨w.heap.size + 1 + 1 + 1 + 1, 0, none⟩)], .int .i64 q.1, .agg #[.int .u32 q.2.1, .int .u32 q.2.2.1, .int .i64 q.2.2.2], undef, undef, undef, undef, undef, undef, undef, undef], defers := [] })
  (fun q a' s X Y row ⟨Bx, h1, h2, h3⟩ hg hr => ⟨Bx, h1, boxc_keep h2 hg hr, h3⟩) ?assign ?body ?done ?stop
 case assign =>
  rintro l pre q W K ⟨h1, h2, h3, h4, h5, h6⟩ hK
  gi_wp2
  exact hK _ _ (keeps_below ((Below.refl _ W).alloc (Nat.le_refl _) _)) ((Below.refl _ W).alloc h5 _) ⟨boxc_alloc h1 _, boxc_alloc h2 _, boxc_alloc h3 _, below_alloc' h4 _, by simp; omega, h6⟩ ⟨W.heap.size, h5, boxc_new W _ _, rfl⟩
 case body =>
  rintro l pre q a' W hl ⟨r, hr⟩ ⟨h1, h2, h3, h4, h5, h6⟩ ⟨Bx, hBx, hbx, rfl⟩ hlt
  obtain ⟨b, hb⟩ := cell_Has.tot q.2.1 q.2.2.1 q.2.2.2 a1 a2
  have HH := Aside0.mk hb
  have hq : qHas a1 a2 q = b := by unfold qHas; rw [hb]; cases b <;> rfl
  have HQ := Aside0.mk hq
  clear hb hq
  have HI := Aside0.mk h6
  clear h6
  have f17 : Fence.wide.fn 77 := trivial
  have c1 := boxc_cell h1 0
  have c2 := boxc_cell h2 0
  have c3 := boxc_cell hbx 0
  have c4 := boxc_cell hbx 1
  have c5 := boxc_cell hbx 2
  cases b with
  | false =>
   gi_wp2_with (gi_at_call 77; refine (CallsIn.inRound l (callsIn_wide.2 (cell_Has.calls q.2.1 q.2.2.1 q.2.2.2 a1 a2 false _ HH.out))).mono ?_; rintro e w1 ⟨rfl, hb1⟩)
   exact ⟨keeps_below hb1, hb1.mono h5, boxc_below h1 hb1, boxc_below h2 hb1, boxc_below h3 hb1, below_call h4 hb1, Nat.le_trans h5 hb1.size, by rw [List.find?_append, HI.out]; simp [HQ.out]⟩
  | true =>
   gi_wp2_with (gi_at_call 77; refine (CallsIn.inRound l (callsIn_wide.2 (cell_Has.calls q.2.1 q.2.2.1 q.2.2.2 a1 a2 true _ HH.out))).mono ?_; rintro e w1 ⟨rfl, hb1⟩; have c6 := boxc_cell (boxc_below h3 hb1) 0; have c7 := boxc_frozen (boxc_below h3 hb1) 0)
   exact ⟨(keeps_below hb1).trans ((KeepsOthers.setCell _ _ _).from _), rfl, q, by rw [List.find?_append, HI.out]; simp [HQ.out], by simpa using blk_set (boxc_below h3 hb1) 0 (.int .i64 q.1), (below_call h4 hb1).setCell (by simp; omega) _⟩
 case done =>
  rintro D ys W hD rfl ⟨h1, h2, h3, h4, h5, h6⟩ hK
  have c3 := boxc_cell h3 0
  have h := H.out
  rw [h6] at h
  simp only [Prod.mk.injEq] at h
  obtain ⟨rfl, rfl⟩ := h
  clear H h6
  gi_wp2_with fail
  rw [Exit.noGoto_ret]
  refine ⟨by simp, .inl ⟨_, _, rfl, run_takeDeferred hK, ?_⟩⟩
  exact ⟨.tuple #[.int .i64 0, .int .i64 2], by simp [results, Try.results59, go_sem], rfl, h4.trans (belowK_b (w := w) (Nat.le_refl _) W D _ _ (by omega) hK rfl rfl)⟩
 case stop =>
  rintro D c pre W hD hpre ⟨rfl, q, h2, h3, h4⟩ hK
  have c3 := boxc_cell h3 0
  have hf : (qList a0_0 a0_1 a0_2).find? (qHas a1 a2) = some q := by
   obtain ⟨t, ht⟩ := hpre
   rw [← ht, List.find?_append, h2]; rfl
  have hq0 : 0 ≤ q.1 := qList_pos (List.mem_of_find?_eq_some hf)
  have h := H.out
  rw [hf] at h
  simp only [Prod.mk.injEq] at h
  obtain ⟨h, rfl⟩ := h
  have hr : r1 = q.1 := h.symm
  have HE := Aside0.mk hr
  clear h H h2 hf hr
  gi_wp2_with fail
  rw [Exit.noGoto_ret]
  refine ⟨by simp, .inl ⟨_, _, rfl, run_takeDeferred hK, ?_⟩⟩
  exact ⟨.tuple #[.int .i64 q.1, .int .i64 0], by simp [results, Try.results59, go_sem], by rw [HE.out], h4.trans (belowK_b (w := w) (Nat.le_refl _) W D _ _ (by omega) hK rfl rfl)⟩


end Go.Proofs.Ytoimgijhekahhaa.P

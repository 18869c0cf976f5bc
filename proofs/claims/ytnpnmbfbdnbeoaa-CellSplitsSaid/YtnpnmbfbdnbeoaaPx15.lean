-- Laid by a program of this session: the walk of functions of the translation, for this claim.
import Derived.Test.YtnpnmbfbdnbeoaaPx0
import Derived.Test.YtnpnmbfbdnbeoaaPx2
import Derived.Test.YtnpnmbfbdnbeoaaPx3
import Derived.Test.YtnpnmbfbdnbeoaaPx4
import Derived.Test.YtnpnmbfbdnbeoaaPx13
namespace Go.Proofs.Ytnpnmbfbdnbeoaa.P
open Go.RowKit Go.Proofs.YtnpnmbfbdnbeoaaOwn Go.Proofs.YtnpnmbfbdnbeoaaW.PrintWords Go.Proofs.YtnpnmbfbdnbeoaaW.PrintLast Go.Proofs.YtnpnmbfbdnbeoaaW.PrintMore
attribute [local go_sem] max2_int min2_int max_two min_two max_three min_three max_four min_four   -- for this text's walks alone
set_option linter.unusedVariables false
set_option linter.unusedSimpArgs false

/-! ### sphragislaw08_CellSplits: function 8 -/
mutual
def sphragislaw08_CellSplits.l0 : Nat → Int → Int → Bool → Int → Int → Int → Int → Int → Option (Bool)
  | 0, _, _, _, _, _, _, _, _ => none
  | k + 1, x1, x2, x7, x8, x9, x232000, x232001, x232002 => if x9 < 4 then ((cell_Quarter.f x232000 x232001 x232002 x9).bind fun bt233 => (if bt233.2.2.2 = 0 then ((cell_Has.f bt233.1 bt233.2.1 bt233.2.2.1 x1 x2).bind fun t238 => (sphragislaw08_CellSplits.j1 k x1 x2 x7 x8 x9 t238 x232000 x232001 x232002)) else (sphragislaw08_CellSplits.j1 k x1 x2 x7 x8 x9 false x232000 x232001 x232002))) else ((cell_Right.f x232000 x232001 x232002).bind fun t241 => (if t241 = true then (if x232002 = 0 then (if x7 = true then (some (x8 == 0)) else (some false)) else (if x7 = true then ((cell_Has.f x232000 x232001 x232002 x1 x2).bind fun t242 => (if ((x8 == 1) == t242) = true then (some (decide (x8 ≤ 1))) else (some false))) else (some false))) else (if x7 = true then (some (x8 == 0)) else (some false))))
def sphragislaw08_CellSplits.j1 : Nat → Int → Int → Bool → Int → Int → Bool → Int → Int → Int → Option (Bool)
  | 0, _, _, _, _, _, _, _, _, _ => none
  | k + 1, x1, x2, x7, x8, x9, x32, x232000, x232001, x232002 => if x32 = true then ((cell_Where.f x232000 x232001 x232002 x1 x2).bind fun bt239 => (if bt239.2 = 0 then (if bt239.1 = x9 then (sphragislaw08_CellSplits.l0 k x1 x2 x7 (wrap64 (x8 + 1)) (wrap64 (x9 + 1)) x232000 x232001 x232002) else (some false)) else (some false))) else (sphragislaw08_CellSplits.l0 k x1 x2 x7 x8 (wrap64 (x9 + 1)) x232000 x232001 x232002)
end
def sphragislaw08_CellSplits.f (k : Nat) (a0_0 : Int) (a0_1 : Int) (a0_2 : Int) (a1 : Int) (a2 : Int) : Option (Bool) := (sphragislaw08_shown.f k).bind fun t232 => (sphragislaw08_CellSplits.l0 k a1 a2 t232 0 0 a0_0 a0_1 a0_2)
theorem sphragislaw08_CellSplits.mono_l : ∀ k, (∀ y0 y1 y2 y3 y4 y5 y6 y7, LeO (sphragislaw08_CellSplits.l0 k y0 y1 y2 y3 y4 y5 y6 y7) (sphragislaw08_CellSplits.l0 (k + 1) y0 y1 y2 y3 y4 y5 y6 y7)) ∧ (∀ y0 y1 y2 y3 y4 y5 y6 y7 y8, LeO (sphragislaw08_CellSplits.j1 k y0 y1 y2 y3 y4 y5 y6 y7 y8) (sphragislaw08_CellSplits.j1 (k + 1) y0 y1 y2 y3 y4 y5 y6 y7 y8))
  | 0 => ⟨fun _ _ _ _ _ _ _ _ r h => by simp [sphragislaw08_CellSplits.l0] at h, fun _ _ _ _ _ _ _ _ _ r h => by simp [sphragislaw08_CellSplits.j1] at h⟩
  | k + 1 => by
    obtain ⟨ih0, ih1⟩ := sphragislaw08_CellSplits.mono_l k
    refine ⟨?_, ?_⟩
    · intro y0 y1 y2 y3 y4 y5 y6 y7
      unfold sphragislaw08_CellSplits.l0
      repeat' first
      | (with_reducible exact ih0 _ _ _ _ _ _ _ _)
      | (with_reducible exact ih1 _ _ _ _ _ _ _ _ _)
      | (with_reducible exact sphragislaw08_shown.mono _)
      | (with_reducible exact LeO.refl _)
      | (with_reducible exact LeO.none _)
      | (with_reducible refine LeO.ite ?_ ?_)
      | (with_reducible refine LeO.bind ?_ (fun _ => ?_))
      | exact ih0 _ _ _ _ _ _ _ _
      | exact ih1 _ _ _ _ _ _ _ _ _
      | exact sphragislaw08_shown.mono _
      | exact LeO.none _
      | refine LeO.ite ?_ ?_
      | refine LeO.bind ?_ (fun _ => ?_)
    · intro y0 y1 y2 y3 y4 y5 y6 y7 y8
      unfold sphragislaw08_CellSplits.j1
      repeat' first
      | (with_reducible exact ih0 _ _ _ _ _ _ _ _)
      | (with_reducible exact ih1 _ _ _ _ _ _ _ _ _)
      | (with_reducible exact sphragislaw08_shown.mono _)
      | (with_reducible exact LeO.refl _)
      | (with_reducible exact LeO.none _)
      | (with_reducible refine LeO.ite ?_ ?_)
      | (with_reducible refine LeO.bind ?_ (fun _ => ?_))
      | exact ih0 _ _ _ _ _ _ _ _
      | exact ih1 _ _ _ _ _ _ _ _ _
      | exact sphragislaw08_shown.mono _
      | exact LeO.none _
      | refine LeO.ite ?_ ?_
      | refine LeO.bind ?_ (fun _ => ?_)
theorem sphragislaw08_CellSplits.mono : ∀ a0 a1 a2 a3 a4 k, LeO (sphragislaw08_CellSplits.f k a0 a1 a2 a3 a4) (sphragislaw08_CellSplits.f (k + 1) a0 a1 a2 a3 a4) := by
  intro a0 a1 a2 a3 a4 k
  obtain ⟨ih0, ih1⟩ := sphragislaw08_CellSplits.mono_l k
  unfold sphragislaw08_CellSplits.f
  repeat' first
      | (with_reducible exact ih0 _ _ _ _ _ _ _ _)
      | (with_reducible exact ih1 _ _ _ _ _ _ _ _ _)
      | (with_reducible exact sphragislaw08_shown.mono _)
      | (with_reducible exact LeO.refl _)
      | (with_reducible exact LeO.none _)
      | (with_reducible refine LeO.ite ?_ ?_)
      | (with_reducible refine LeO.bind ?_ (fun _ => ?_))
      | exact ih0 _ _ _ _ _ _ _ _
      | exact ih1 _ _ _ _ _ _ _ _ _
      | exact sphragislaw08_shown.mono _
      | exact LeO.none _
      | refine LeO.ite ?_ ?_
      | refine LeO.bind ?_ (fun _ => ?_)
set_option maxHeartbeats 8000000 in
set_option maxRecDepth 100000 in
theorem sphragislaw08_CellSplits.calls (k : Nat) (a0_0 : Int) (a0_1 : Int) (a0_2 : Int) (a1 : Int) (a2 : Int) (r : Bool) (w : World) (h : sphragislaw08_CellSplits.f k a0_0 a0_1 a0_2 a1 a2 = some r) :
    Calls Try.prog 8 #[.agg #[.int .u32 a0_0, .int .u32 a0_1, .int .i64 a0_2], .int .u32 a1, .int .u32 a2] w fun e w' => e = .returned (.bool r) ∧ Below w.heap.size w w' := by
  have hu24 := Try.underlying24
  have HB := Aside0.mk (Below.refl w.heap.size w)
  have H : ((sphragislaw08_shown.f k).bind fun t232 => (sphragislaw08_CellSplits.l0 k a1 a2 t232 0 0 a0_0 a0_1 a0_2)) = some r := h
  clear h
  replace H := Option.bind_eq_some_iff.mp H
  obtain ⟨t232, A40, H⟩ := H
  replace H : (sphragislaw08_CellSplits.l0 k a1 a2 t232 0 0 a0_0 a0_1 a0_2) = some r := H
  have A4 := Aside0.mk A40
  clear A40
  have H' := Aside0.mk H
  clear H
  go_enter Try.func8, Try.ntmps8
  go_wp2_with (first | ((with_reducible refine gate_dst (N := 3) rfl ?_); refine box_event ?hg (N := 3) ?hd (cs := #[.int .u32 a0_0, .int .u32 a0_1, .int .i64 a0_2]) (t := 24) ?hr ?_; (case hd => rfl); (case hg => rfl); (case hr => first | (go_simp; done) | (go_simp; rfl)); intro gb231 hg w5 hbox hb; have n0_ := Aside0.mk (below_step (by repeat (first | (with_reducible first | exact HB.out | apply below_alloc | apply pw_below_drewN | apply below_drew1) | exact HB.out)) hb); have n1_ := Aside0.mk (hbox); have n2_ := Aside0.mk ((by rw [hg]; exact (below_size (by repeat (first | (with_reducible first | exact HB.out | apply below_alloc | apply pw_below_drewN | apply below_drew1) | exact HB.out))) : w.heap.size ≤ gb231)); have n3_ := Aside0.mk ((by rw [hg]; exact (below_size (by repeat (first | (with_reducible first | exact HB.out | apply below_alloc | apply pw_below_drewN | apply below_drew1) | exact HB.out))) : w.heap.size ≤ gb231)); clear HB; have HB := n0_; have BK231 := n1_; have GW231 := n2_; have GE231 := n3_; clear n0_ n1_ n2_ n3_; clear hb hbox hg) | ((with_reducible refine gate_callee (f := 12) rfl ?_); refine goesL_ (some 14) rfl rfl Try.func12 (by kernel_rfl) rfl #[] rfl (by (try simp only [List.map_toArray, List.map_cons, List.map_nil]); first | done | rfl | (simp only [List.length_drop, List.length_take]; rfl)) ?_; (with_reducible refine (sphragislaw08_shown.calls k  t232 _ A4.out).mono ?_); rintro e w6 ⟨rfl, hb⟩; refine ⟨_, rfl, ?_⟩; have n0_ := Aside0.mk (blk_below (g := gb231) (o := .cells #[.int .u32 a0_0, .int .u32 a0_1, .int .i64 a0_2] 24 (0, 0)) (by (with_reducible repeat (first | refine blk_drewN ?_ _ | refine blk_drew ?_ | refine blk_alloc ?_ _)); exact BK231.out) hb); have n1_ := Aside0.mk (below_step (by repeat (first | (with_reducible first | exact HB.out | apply below_alloc | apply pw_below_drewN | apply below_drew1 | refine below_set ?_ GE231.out) | exact HB.out)) hb); clear BK231; clear HB; have BK231 := n0_; have HB := n1_; clear n0_ n1_; (try clear hb); (try clear hb2); (try clear hk); (try clear hi)))
  go_loopg [8, 9] k (fun kq v8 v9 w' => ∃ (x8_1 : Int) (x9_1 : Int), v8 = .int .i64 x8_1 ∧ v9 = .int .i64 x9_1 ∧ Aside0 (sphragislaw08_CellSplits.l0 kq a1 a2 t232 x8_1 x9_1 a0_0 a0_1 a0_2 = some r) ∧ Aside0 (kq ≤ k) ∧ Aside0 (w'.heap[gb231]? = some (.cells #[.int .u32 a0_0, .int .u32 a0_1, .int .i64 a0_2] 24 (0, 0))) ∧ Aside0 (Below w.heap.size w w'))
  case atStart => exact ⟨(0), (0), (by first | rfl | (simp; done) | (simp [*]; done)), (by first | rfl | (simp; done) | (simp [*]; done)), H', ⟨Nat.le_refl _⟩, ⟨by (with_reducible repeat (first | refine blk_drewN ?_ _ | refine blk_drew ?_ | refine blk_alloc ?_ _)); exact BK231.out⟩, ⟨by repeat (first | (with_reducible first | exact HB.out | apply below_alloc | apply pw_below_drewN | apply below_drew1 | refine below_set ?_ GE231.out) | exact HB.out)⟩⟩
  case round =>
    clear H'
    try clear c1
    try clear p2
    obtain ⟨x8_1, x9_1, rfl, rfl, HA, HK1, BK231, HB⟩ := hrel
    cases gk with
    | zero => exact absurd HA.out (by simp [sphragislaw08_CellSplits.l0])
    | succ k1 =>
      have H := HA.out
      clear HA
      simp only [sphragislaw08_CellSplits.l0] at H
      by_cases c7 : x9_1 < 4
      · rw [if_pos c7] at H
        have c7b0 : decide (x9_1 < 4) = true := decide_eq_true c7
        clear c7
        replace H := Option.bind_eq_some_iff.mp H
        obtain ⟨⟨t233, t234, t235, t236⟩, A80, H⟩ := H
        replace H : (if t236 = 0 then ((cell_Has.f t233 t234 t235 a1 a2).bind fun t238 => (sphragislaw08_CellSplits.j1 k1 a1 a2 t232 x8_1 x9_1 t238 a0_0 a0_1 a0_2)) else (sphragislaw08_CellSplits.j1 k1 a1 a2 t232 x8_1 x9_1 false a0_0 a0_1 a0_2)) = some r := H
        have A8 := Aside0.mk A80
        clear A80
        have HC9 := Aside0.mk H
        clear H
        have hcz10_0 : wr.cell? ⟨gb231, 0, none⟩ = some (.int .u32 a0_0) := (blk_cell BK231.out 0).trans rfl
        have hcz10_1 : wr.cell? ⟨gb231, 1, none⟩ = some (.int .u32 a0_1) := (blk_cell BK231.out 1).trans rfl
        have hcz10_2 : wr.cell? ⟨gb231, 2, none⟩ = some (.int .i64 a0_2) := (blk_cell BK231.out 2).trans rfl
        have hfz10_0 := blk_frozen BK231.out 0
        have hfz10_1 := blk_frozen BK231.out 1
        have hfz10_2 := blk_frozen BK231.out 2
        go_upto_region 7 with (first | ((with_reducible refine gate_callee (f := 26) rfl ?_); refine goesL_ (some 22) rfl rfl Try.func26 (by kernel_rfl) rfl #[.agg #[.int .u32 a0_0, .int .u32 a0_1, .int .i64 a0_2], .int .i64 x9_1] rfl (by (try simp only [List.map_toArray, List.map_cons, List.map_nil]); first | done | rfl | (simp only [List.length_drop, List.length_take]; rfl)) ?_; (with_reducible refine (cell_Quarter.calls a0_0 a0_1 a0_2 x9_1 t233 t234 t235 t236 _ A8.out).mono ?_); rintro e w11 ⟨rfl, hb⟩; refine ⟨_, rfl, ?_⟩; have n0_ := Aside0.mk (blk_below (g := gb231) (o := .cells #[.int .u32 a0_0, .int .u32 a0_1, .int .i64 a0_2] 24 (0, 0)) (by (with_reducible repeat (first | refine blk_drewN ?_ _ | refine blk_drew ?_ | refine blk_alloc ?_ _)); exact BK231.out) hb); have n1_ := Aside0.mk (below_step (by repeat (first | (with_reducible first | exact HB.out | apply below_alloc | apply pw_below_drewN | apply below_drew1 | refine below_set ?_ GE231.out) | exact HB.out)) hb); clear BK231; clear HB; have BK231 := n0_; have HB := n1_; clear n0_ n1_; (try clear hb); (try clear hb2); (try clear hk); (try clear hi)) | ((with_reducible refine gate_dst (N := 10) rfl ?_); refine box_event ?hg (N := 10) ?hd (cs := #[.int .u32 0, .int .u32 0, .int .i64 0]) (t := 24) ?hr ?_; (case hd => rfl); (case hg => rfl); (case hr => first | (go_simp; done) | (go_simp; rfl)); intro gb237 hg w12 hbox hb; have n0_ := Aside0.mk (blk_below (g := gb231) (o := .cells #[.int .u32 a0_0, .int .u32 a0_1, .int .i64 a0_2] 24 (0, 0)) (by (with_reducible repeat (first | refine blk_drewN ?_ _ | refine blk_drew ?_ | refine blk_alloc ?_ _)); exact BK231.out) hb); have n1_ := Aside0.mk (below_step (by repeat (first | (with_reducible first | exact HB.out | apply below_alloc | apply pw_below_drewN | apply below_drew1 | refine below_set ?_ GE231.out) | exact HB.out)) hb); have n2_ := Aside0.mk (hbox); have n3_ := Aside0.mk ((by rw [hg]; exact (below_size (by repeat (first | (with_reducible first | exact HB.out | apply below_alloc | apply pw_below_drewN | apply below_drew1 | refine below_set ?_ GE231.out) | exact HB.out))) : w.heap.size ≤ gb237)); have n4_ := Aside0.mk ((by rw [hg]; exact (below_size (by repeat (first | (with_reducible first | exact HB.out | apply below_alloc | apply pw_below_drewN | apply below_drew1 | refine below_set ?_ GE231.out) | exact HB.out))) : w.heap.size ≤ gb237)); have n5_ := Aside0.mk ((by rw [hg]; exact Nat.ne_of_lt (blk_lt (g := gb231) (o := .cells #[.int .u32 a0_0, .int .u32 a0_1, .int .i64 a0_2] 24 (0, 0)) (by (with_reducible repeat (first | refine blk_drewN ?_ _ | refine blk_drew ?_ | refine blk_alloc ?_ _)); exact BK231.out)) : gb231 ≠ gb237)); have n6_ := Aside0.mk ((by rw [hg]; exact Nat.ne_of_gt (blk_lt (g := gb231) (o := .cells #[.int .u32 a0_0, .int .u32 a0_1, .int .i64 a0_2] 24 (0, 0)) (by (with_reducible repeat (first | refine blk_drewN ?_ _ | refine blk_drew ?_ | refine blk_alloc ?_ _)); exact BK231.out)) : gb237 ≠ gb231)); clear BK231; clear HB; have BK231 := n0_; have HB := n1_; have BK237 := n2_; have GW237 := n3_; have GE237 := n4_; have NB231_237 := n5_; have NB237_231 := n6_; clear n0_ n1_ n2_ n3_ n4_ n5_ n6_; clear hb hbox hg; have hnb13 := NB237_231.out; have hnc13 := NB231_237.out; have hcz14_0 : w12.cell? ⟨gb237, 0, none⟩ = some (.int .u32 0) := (blk_cell BK237.out 0).trans rfl; have hcz14_1 : w12.cell? ⟨gb237, 1, none⟩ = some (.int .u32 0) := (blk_cell BK237.out 1).trans rfl; have hcz14_2 : w12.cell? ⟨gb237, 2, none⟩ = some (.int .i64 0) := (blk_cell BK237.out 2).trans rfl; have hfz14_0 := blk_frozen BK237.out 0; have hfz14_1 := blk_frozen BK237.out 1; have hfz14_2 := blk_frozen BK237.out 2))
        (try simp only [Act.put, List.setIfInBounds_toArray, List.set_cons_zero, List.set_cons_succ])
        go_cut [32] (fun v32 wc => ∃ (kq : Nat) (x32_8 : Bool), v32 = .bool x32_8 ∧ Aside0 (sphragislaw08_CellSplits.j1 kq a1 a2 t232 x8_1 x9_1 x32_8 a0_0 a0_1 a0_2 = some r) ∧ Aside0 (kq ≤ k1) ∧ Aside0 (wc.heap[gb231]? = some (.cells #[.int .u32 a0_0, .int .u32 a0_1, .int .i64 a0_2] 24 (0, 0))) ∧ Aside0 (wc.heap[gb237]? = some (.cells #[.int .u32 t233, .int .u32 t234, .int .i64 t235] 24 (0, 0))) ∧ Aside0 (Below w.heap.size w wc))
        case first =>
          have H := HC9.out
          clear HC9
          by_cases c15 : t236 = 0
          · rw [if_pos c15] at H
            have c15b0 : (t236 == 0) = true := beq_iff_eq.mpr c15
            have c15b1 : (t236 != 0) = false := bne_eq_false_iff_eq.mpr c15
            clear c15
            (first | rw [c15b0] | (simp only [i64_w, i32_w]; rw [c15b0]) | skip)
            replace H := Option.bind_eq_some_iff.mp H
            obtain ⟨t238, A160, H⟩ := H
            replace H : (sphragislaw08_CellSplits.j1 k1 a1 a2 t232 x8_1 x9_1 t238 a0_0 a0_1 a0_2) = some r := H
            have A16 := Aside0.mk A160
            clear A160
            have H' := Aside0.mk H
            clear H
            have hnb17 := NB237_231.out
            have hnc17 := NB231_237.out
            have hcz18_0 : w12.cell? ⟨gb237, 0, none⟩ = some (.int .u32 0) := (blk_cell BK237.out 0).trans rfl
            have hcz18_1 : w12.cell? ⟨gb237, 1, none⟩ = some (.int .u32 0) := (blk_cell BK237.out 1).trans rfl
            have hcz18_2 : w12.cell? ⟨gb237, 2, none⟩ = some (.int .i64 0) := (blk_cell BK237.out 2).trans rfl
            have hfz18_0 := blk_frozen BK237.out 0
            have hfz18_1 := blk_frozen BK237.out 1
            have hfz18_2 := blk_frozen BK237.out 2
            go_wp2_with (first | (go_at_call 17; (with_reducible refine (cell_Has.calls t233 t234 t235 a1 a2 t238 _ A16.out).mono ?_); rintro e w19 ⟨rfl, hb⟩; have n0_ := Aside0.mk (blk_below (g := gb231) (o := .cells #[.int .u32 a0_0, .int .u32 a0_1, .int .i64 a0_2] 24 (0, 0)) (by (with_reducible repeat (first | refine blk_drewN ?_ _ | refine blk_drew ?_ | refine blk_alloc ?_ _)); refine blk_far ?_ NB231_237.out _; (with_reducible repeat (first | refine blk_drewN ?_ _ | refine blk_drew ?_ | refine blk_alloc ?_ _)); refine blk_far ?_ NB231_237.out _; (with_reducible repeat (first | refine blk_drewN ?_ _ | refine blk_drew ?_ | refine blk_alloc ?_ _)); refine blk_far ?_ NB231_237.out _; (with_reducible repeat (first | refine blk_drewN ?_ _ | refine blk_drew ?_ | refine blk_alloc ?_ _)); exact BK231.out) hb); have n1_ := Aside0.mk (blk_below (g := gb237) (o := .cells #[.int .u32 t233, .int .u32 t234, .int .i64 t235] 24 (0, 0)) (by (with_reducible repeat (first | refine blk_drewN ?_ _ | refine blk_drew ?_ | refine blk_alloc ?_ _)); refine blk_put (cs := #[.int .u32 t233, .int .u32 t234, .int .i64 0]) ?_ 2 _ (by first | rfl | (simp; done)); (with_reducible repeat (first | refine blk_drewN ?_ _ | refine blk_drew ?_ | refine blk_alloc ?_ _)); refine blk_put (cs := #[.int .u32 t233, .int .u32 0, .int .i64 0]) ?_ 1 _ (by first | rfl | (simp; done)); (with_reducible repeat (first | refine blk_drewN ?_ _ | refine blk_drew ?_ | refine blk_alloc ?_ _)); refine blk_put (cs := #[.int .u32 0, .int .u32 0, .int .i64 0]) ?_ 0 _ (by first | rfl | (simp; done)); (with_reducible repeat (first | refine blk_drewN ?_ _ | refine blk_drew ?_ | refine blk_alloc ?_ _)); exact BK237.out) hb); have n2_ := Aside0.mk (below_step (by repeat (first | (with_reducible first | exact HB.out | apply below_alloc | apply pw_below_drewN | apply below_drew1 | refine below_set ?_ GE231.out | refine below_set ?_ GE237.out) | exact HB.out)) hb); clear BK231; clear BK237; clear HB; have BK231 := n0_; have BK237 := n1_; have HB := n2_; clear n0_ n1_ n2_; (try clear hb); (try clear hb2); (try clear hk); (try clear hi)))
            go_meet
            case rel => exact ⟨_, (t238), (by first | rfl | (simp; done) | (simp [*]; done)), H', ⟨by have := HK1.out; first | omega | exact Nat.le_refl _⟩, ⟨by (with_reducible repeat (first | refine blk_drewN ?_ _ | refine blk_drew ?_ | refine blk_alloc ?_ _)); exact BK231.out⟩, ⟨by (with_reducible repeat (first | refine blk_drewN ?_ _ | refine blk_drew ?_ | refine blk_alloc ?_ _)); exact BK237.out⟩, ⟨by repeat (first | (with_reducible first | exact HB.out | apply below_alloc | apply pw_below_drewN | apply below_drew1 | refine below_set ?_ GE231.out | refine below_set ?_ GE237.out) | exact HB.out)⟩⟩
          · rw [if_neg c15] at H
            have c15b0 : (t236 == 0) = false := beq_eq_false_iff_ne.mpr c15
            have c15b1 : (t236 != 0) = true := bne_iff_ne.mpr c15
            (first | rw [c15b0] | (simp only [i64_w, i32_w]; rw [c15b0]) | skip)
            have H' := Aside0.mk H
            clear H
            go_wp2
            go_meet
            case rel => exact ⟨_, (false), (by first | rfl | (simp; done) | (simp [*]; done)), H', ⟨by have := HK1.out; first | omega | exact Nat.le_refl _⟩, ⟨by (with_reducible repeat (first | refine blk_drewN ?_ _ | refine blk_drew ?_ | refine blk_alloc ?_ _)); refine blk_far ?_ NB231_237.out _; (with_reducible repeat (first | refine blk_drewN ?_ _ | refine blk_drew ?_ | refine blk_alloc ?_ _)); refine blk_far ?_ NB231_237.out _; (with_reducible repeat (first | refine blk_drewN ?_ _ | refine blk_drew ?_ | refine blk_alloc ?_ _)); refine blk_far ?_ NB231_237.out _; (with_reducible repeat (first | refine blk_drewN ?_ _ | refine blk_drew ?_ | refine blk_alloc ?_ _)); exact BK231.out⟩, ⟨by (with_reducible repeat (first | refine blk_drewN ?_ _ | refine blk_drew ?_ | refine blk_alloc ?_ _)); refine blk_put (cs := #[.int .u32 t233, .int .u32 t234, .int .i64 0]) ?_ 2 _ (by first | rfl | (simp; done)); (with_reducible repeat (first | refine blk_drewN ?_ _ | refine blk_drew ?_ | refine blk_alloc ?_ _)); refine blk_put (cs := #[.int .u32 t233, .int .u32 0, .int .i64 0]) ?_ 1 _ (by first | rfl | (simp; done)); (with_reducible repeat (first | refine blk_drewN ?_ _ | refine blk_drew ?_ | refine blk_alloc ?_ _)); refine blk_put (cs := #[.int .u32 0, .int .u32 0, .int .i64 0]) ?_ 0 _ (by first | rfl | (simp; done)); (with_reducible repeat (first | refine blk_drewN ?_ _ | refine blk_drew ?_ | refine blk_alloc ?_ _)); exact BK237.out⟩, ⟨by repeat (first | (with_reducible first | exact HB.out | apply below_alloc | apply pw_below_drewN | apply below_drew1 | refine below_set ?_ GE231.out | refine below_set ?_ GE237.out) | exact HB.out)⟩⟩
        case rest =>
          clear HC9
          try clear c1
          try clear c2
          try clear p2
          try clear c7
          try clear c7b0
          try clear c8
          try clear c12
          try clear c13
          try clear c15
          try clear c15b0
          try clear c15b1
          try clear c17
          try clear hcz10_0
          try clear hcz10_1
          try clear hcz10_2
          try clear hcz14_0
          try clear hcz14_1
          try clear hcz14_2
          try clear hcz18_0
          try clear hcz18_1
          try clear hcz18_2
          try clear hfz10_0
          try clear hfz10_1
          try clear hfz10_2
          try clear hfz14_0
          try clear hfz14_1
          try clear hfz14_2
          try clear hfz18_0
          try clear hfz18_1
          try clear hfz18_2
          try clear p2
          obtain ⟨kq, x32_8, rfl, HA, HJ8, BK231, BK237, HB⟩ := hcut
          cases kq with
          | zero => exact absurd HA.out (by simp [sphragislaw08_CellSplits.j1])
          | succ kj8 =>
            have H := HA.out
            clear HA
            simp only [sphragislaw08_CellSplits.j1] at H
            by_cases c20 : x32_8 = true
            · subst c20
              have H1 : ((cell_Where.f a0_0 a0_1 a0_2 a1 a2).bind fun bt239 => (if bt239.2 = 0 then (if bt239.1 = x9_1 then (sphragislaw08_CellSplits.l0 kj8 a1 a2 t232 (wrap64 (x8_1 + 1)) (wrap64 (x9_1 + 1)) a0_0 a0_1 a0_2) else (some false)) else (some false))) = some r := by rw [if_pos rfl] at H; exact H
              clear H
              have H := H1
              clear H1
              replace H := Option.bind_eq_some_iff.mp H
              obtain ⟨⟨t239, t240⟩, A210, H⟩ := H
              replace H : (if t240 = 0 then (if t239 = x9_1 then (sphragislaw08_CellSplits.l0 kj8 a1 a2 t232 (wrap64 (x8_1 + 1)) (wrap64 (x9_1 + 1)) a0_0 a0_1 a0_2) else (some false)) else (some false)) = some r := H
              have A21 := Aside0.mk A210
              clear A210
              by_cases c22 : t240 = 0
              · rw [if_pos c22] at H
                have c22b0 : (t240 == 0) = true := beq_iff_eq.mpr c22
                have c22b1 : (t240 != 0) = false := bne_eq_false_iff_eq.mpr c22
                clear c22
                by_cases c23 : t239 = x9_1
                · rw [if_pos c23] at H
                  have c23b0 : (t239 == x9_1) = true := beq_iff_eq.mpr c23
                  have c23b1 : (t239 != x9_1) = false := bne_eq_false_iff_eq.mpr c23
                  clear c23
                  have H' := Aside0.mk H
                  clear H
                  have hnb24 := NB231_237.out
                  have hnc24 := NB237_231.out
                  have hcz25_0 : wc.cell? ⟨gb231, 0, none⟩ = some (.int .u32 a0_0) := (blk_cell BK231.out 0).trans rfl
                  have hcz25_1 : wc.cell? ⟨gb231, 1, none⟩ = some (.int .u32 a0_1) := (blk_cell BK231.out 1).trans rfl
                  have hcz25_2 : wc.cell? ⟨gb231, 2, none⟩ = some (.int .i64 a0_2) := (blk_cell BK231.out 2).trans rfl
                  have hfz25_0 := blk_frozen BK231.out 0
                  have hfz25_1 := blk_frozen BK231.out 1
                  have hfz25_2 := blk_frozen BK231.out 2
                  go_wp2_with (first | ((with_reducible refine gate_callee (f := 23) rfl ?_); refine goesL_ (some 39) rfl rfl Try.func23 (by kernel_rfl) rfl #[.agg #[.int .u32 a0_0, .int .u32 a0_1, .int .i64 a0_2], .int .u32 a1, .int .u32 a2] rfl (by (try simp only [List.map_toArray, List.map_cons, List.map_nil]); first | done | rfl | (simp only [List.length_drop, List.length_take]; rfl)) ?_; (with_reducible refine (cell_Where.calls a0_0 a0_1 a0_2 a1 a2 t239 t240 _ A21.out).mono ?_); rintro e w26 ⟨rfl, hb⟩; refine ⟨_, rfl, ?_⟩; have n0_ := Aside0.mk (blk_below (g := gb231) (o := .cells #[.int .u32 a0_0, .int .u32 a0_1, .int .i64 a0_2] 24 (0, 0)) (by (with_reducible repeat (first | refine blk_drewN ?_ _ | refine blk_drew ?_ | refine blk_alloc ?_ _)); exact BK231.out) hb); have n1_ := Aside0.mk (blk_below (g := gb237) (o := .cells #[.int .u32 t233, .int .u32 t234, .int .i64 t235] 24 (0, 0)) (by (with_reducible repeat (first | refine blk_drewN ?_ _ | refine blk_drew ?_ | refine blk_alloc ?_ _)); exact BK237.out) hb); have n2_ := Aside0.mk (below_step (by repeat (first | (with_reducible first | exact HB.out | apply below_alloc | apply pw_below_drewN | apply below_drew1 | refine below_set ?_ GE231.out | refine below_set ?_ GE237.out) | exact HB.out)) hb); clear BK231; clear BK237; clear HB; have BK231 := n0_; have BK237 := n1_; have HB := n2_; clear n0_ n1_ n2_; (try clear hb); (try clear hb2); (try clear hk); (try clear hi)))
                  go_roundg kj8
                  case measure => have := HK1.out; have := HJ8.out; omega
                  case rel => exact ⟨(wrap64 (x8_1 + 1)), (wrap64 (x9_1 + 1)), (by first | rfl | (simp; done) | (simp [*]; done)), (by first | rfl | (simp; done) | (simp [*]; done)), H', ⟨by have := HK1.out; have := HJ8.out; omega⟩, ⟨by (with_reducible repeat (first | refine blk_drewN ?_ _ | refine blk_drew ?_ | refine blk_alloc ?_ _)); exact BK231.out⟩, ⟨by repeat (first | (with_reducible first | exact HB.out | apply below_alloc | apply pw_below_drewN | apply below_drew1 | refine below_set ?_ GE231.out | refine below_set ?_ GE237.out) | exact HB.out)⟩⟩
                · rw [if_neg c23] at H
                  have c23b0 : (t239 == x9_1) = false := beq_eq_false_iff_ne.mpr c23
                  have c23b1 : (t239 != x9_1) = true := bne_iff_ne.mpr c23
                  obtain rfl := Option.some.inj H
                  have hnb27 := NB231_237.out
                  have hnc27 := NB237_231.out
                  have hcz28_0 : wc.cell? ⟨gb231, 0, none⟩ = some (.int .u32 a0_0) := (blk_cell BK231.out 0).trans rfl
                  have hcz28_1 : wc.cell? ⟨gb231, 1, none⟩ = some (.int .u32 a0_1) := (blk_cell BK231.out 1).trans rfl
                  have hcz28_2 : wc.cell? ⟨gb231, 2, none⟩ = some (.int .i64 a0_2) := (blk_cell BK231.out 2).trans rfl
                  have hfz28_0 := blk_frozen BK231.out 0
                  have hfz28_1 := blk_frozen BK231.out 1
                  have hfz28_2 := blk_frozen BK231.out 2
                  go_wp2_with (first | ((with_reducible refine gate_callee (f := 23) rfl ?_); refine goesL_ (some 39) rfl rfl Try.func23 (by kernel_rfl) rfl #[.agg #[.int .u32 a0_0, .int .u32 a0_1, .int .i64 a0_2], .int .u32 a1, .int .u32 a2] rfl (by (try simp only [List.map_toArray, List.map_cons, List.map_nil]); first | done | rfl | (simp only [List.length_drop, List.length_take]; rfl)) ?_; (with_reducible refine (cell_Where.calls a0_0 a0_1 a0_2 a1 a2 t239 t240 _ A21.out).mono ?_); rintro e w29 ⟨rfl, hb⟩; refine ⟨_, rfl, ?_⟩; have n0_ := Aside0.mk (blk_below (g := gb231) (o := .cells #[.int .u32 a0_0, .int .u32 a0_1, .int .i64 a0_2] 24 (0, 0)) (by (with_reducible repeat (first | refine blk_drewN ?_ _ | refine blk_drew ?_ | refine blk_alloc ?_ _)); exact BK231.out) hb); have n1_ := Aside0.mk (blk_below (g := gb237) (o := .cells #[.int .u32 t233, .int .u32 t234, .int .i64 t235] 24 (0, 0)) (by (with_reducible repeat (first | refine blk_drewN ?_ _ | refine blk_drew ?_ | refine blk_alloc ?_ _)); exact BK237.out) hb); have n2_ := Aside0.mk (below_step (by repeat (first | (with_reducible first | exact HB.out | apply below_alloc | apply pw_below_drewN | apply below_drew1 | refine below_set ?_ GE231.out | refine below_set ?_ GE237.out) | exact HB.out)) hb); clear BK231; clear BK237; clear HB; have BK231 := n0_; have BK237 := n1_; have HB := n2_; clear n0_ n1_ n2_; (try clear hb); (try clear hb2); (try clear hk); (try clear hi)))
                  go_ret
                  exact ⟨by first | rfl | (simp [errW_none, errW_some] <;> rfl) | (simp [*, errW_none, errW_some] <;> rfl), by repeat (first | (with_reducible first | exact HB.out | apply below_alloc | apply pw_below_drewN | apply below_drew1 | refine below_set ?_ GE231.out | refine below_set ?_ GE237.out) | exact HB.out)⟩
              · rw [if_neg c22] at H
                have c22b0 : (t240 == 0) = false := beq_eq_false_iff_ne.mpr c22
                have c22b1 : (t240 != 0) = true := bne_iff_ne.mpr c22
                obtain rfl := Option.some.inj H
                have hnb30 := NB231_237.out
                have hnc30 := NB237_231.out
                have hcz31_0 : wc.cell? ⟨gb231, 0, none⟩ = some (.int .u32 a0_0) := (blk_cell BK231.out 0).trans rfl
                have hcz31_1 : wc.cell? ⟨gb231, 1, none⟩ = some (.int .u32 a0_1) := (blk_cell BK231.out 1).trans rfl
                have hcz31_2 : wc.cell? ⟨gb231, 2, none⟩ = some (.int .i64 a0_2) := (blk_cell BK231.out 2).trans rfl
                have hfz31_0 := blk_frozen BK231.out 0
                have hfz31_1 := blk_frozen BK231.out 1
                have hfz31_2 := blk_frozen BK231.out 2
                go_wp2_with (first | ((with_reducible refine gate_callee (f := 23) rfl ?_); refine goesL_ (some 39) rfl rfl Try.func23 (by kernel_rfl) rfl #[.agg #[.int .u32 a0_0, .int .u32 a0_1, .int .i64 a0_2], .int .u32 a1, .int .u32 a2] rfl (by (try simp only [List.map_toArray, List.map_cons, List.map_nil]); first | done | rfl | (simp only [List.length_drop, List.length_take]; rfl)) ?_; (with_reducible refine (cell_Where.calls a0_0 a0_1 a0_2 a1 a2 t239 t240 _ A21.out).mono ?_); rintro e w32 ⟨rfl, hb⟩; refine ⟨_, rfl, ?_⟩; have n0_ := Aside0.mk (blk_below (g := gb231) (o := .cells #[.int .u32 a0_0, .int .u32 a0_1, .int .i64 a0_2] 24 (0, 0)) (by (with_reducible repeat (first | refine blk_drewN ?_ _ | refine blk_drew ?_ | refine blk_alloc ?_ _)); exact BK231.out) hb); have n1_ := Aside0.mk (blk_below (g := gb237) (o := .cells #[.int .u32 t233, .int .u32 t234, .int .i64 t235] 24 (0, 0)) (by (with_reducible repeat (first | refine blk_drewN ?_ _ | refine blk_drew ?_ | refine blk_alloc ?_ _)); exact BK237.out) hb); have n2_ := Aside0.mk (below_step (by repeat (first | (with_reducible first | exact HB.out | apply below_alloc | apply pw_below_drewN | apply below_drew1 | refine below_set ?_ GE231.out | refine below_set ?_ GE237.out) | exact HB.out)) hb); clear BK231; clear BK237; clear HB; have BK231 := n0_; have BK237 := n1_; have HB := n2_; clear n0_ n1_ n2_; (try clear hb); (try clear hb2); (try clear hk); (try clear hi)))
                go_ret
                exact ⟨by first | rfl | (simp [errW_none, errW_some] <;> rfl) | (simp [*, errW_none, errW_some] <;> rfl), by repeat (first | (with_reducible first | exact HB.out | apply below_alloc | apply pw_below_drewN | apply below_drew1 | refine below_set ?_ GE231.out | refine below_set ?_ GE237.out) | exact HB.out)⟩
            · replace c20 := Bool.eq_false_iff.mpr c20
              subst c20
              have H1 : (sphragislaw08_CellSplits.l0 kj8 a1 a2 t232 x8_1 (wrap64 (x9_1 + 1)) a0_0 a0_1 a0_2) = some r := by rw [if_neg (show ¬ (false = true) by decide)] at H; exact H
              clear H
              have H := H1
              clear H1
              have H' := Aside0.mk H
              clear H
              go_wp2
              go_roundg kj8
              case measure => have := HK1.out; have := HJ8.out; omega
              case rel => exact ⟨(x8_1), (wrap64 (x9_1 + 1)), (by first | rfl | (simp; done) | (simp [*]; done)), (by first | rfl | (simp; done) | (simp [*]; done)), H', ⟨by have := HK1.out; have := HJ8.out; omega⟩, ⟨by (with_reducible repeat (first | refine blk_drewN ?_ _ | refine blk_drew ?_ | refine blk_alloc ?_ _)); exact BK231.out⟩, ⟨by repeat (first | (with_reducible first | exact HB.out | apply below_alloc | apply pw_below_drewN | apply below_drew1 | refine below_set ?_ GE231.out | refine below_set ?_ GE237.out) | exact HB.out)⟩⟩
      · rw [if_neg c7] at H
        have c7b0 : decide (x9_1 < 4) = false := decide_eq_false c7
        clear c7
        replace H := Option.bind_eq_some_iff.mp H
        obtain ⟨t241, A330, H⟩ := H
        replace H : (if t241 = true then (if a0_2 = 0 then (if t232 = true then (some (x8_1 == 0)) else (some false)) else (if t232 = true then ((cell_Has.f a0_0 a0_1 a0_2 a1 a2).bind fun t242 => (if ((x8_1 == 1) == t242) = true then (some (decide (x8_1 ≤ 1))) else (some false))) else (some false))) else (if t232 = true then (some (x8_1 == 0)) else (some false))) = some r := H
        have A33 := Aside0.mk A330
        clear A330
        by_cases c34 : t241 = true
        · subst c34
          have H1 : (if a0_2 = 0 then (if t232 = true then (some (x8_1 == 0)) else (some false)) else (if t232 = true then ((cell_Has.f a0_0 a0_1 a0_2 a1 a2).bind fun t242 => (if ((x8_1 == 1) == t242) = true then (some (decide (x8_1 ≤ 1))) else (some false))) else (some false))) = some r := by rw [if_pos rfl] at H; exact H
          clear H
          have H := H1
          clear H1
          by_cases c35 : a0_2 = 0
          · rw [if_pos c35] at H
            have c35b0 : (a0_2 == 0) = true := beq_iff_eq.mpr c35
            have c35b1 : (a0_2 != 0) = false := bne_eq_false_iff_eq.mpr c35
            clear c35
            by_cases c36 : t232 = true
            · subst c36
              have H1 : (some (x8_1 == 0)) = some r := by rw [if_pos rfl] at H; exact H
              clear H
              have H := H1
              clear H1
              obtain rfl := Option.some.inj H
              have hcz37_0 : wr.cell? ⟨gb231, 0, none⟩ = some (.int .u32 a0_0) := (blk_cell BK231.out 0).trans rfl
              have hcz37_1 : wr.cell? ⟨gb231, 1, none⟩ = some (.int .u32 a0_1) := (blk_cell BK231.out 1).trans rfl
              have hcz37_2 : wr.cell? ⟨gb231, 2, none⟩ = some (.int .i64 a0_2) := (blk_cell BK231.out 2).trans rfl
              have hfz37_0 := blk_frozen BK231.out 0
              have hfz37_1 := blk_frozen BK231.out 1
              have hfz37_2 := blk_frozen BK231.out 2
              go_wp2_with (first | ((with_reducible refine gate_callee (f := 13) rfl ?_); refine goesL_ (some 50) rfl rfl Try.func13 (by kernel_rfl) rfl #[.agg #[.int .u32 a0_0, .int .u32 a0_1, .int .i64 a0_2]] rfl (by (try simp only [List.map_toArray, List.map_cons, List.map_nil]); first | done | rfl | (simp only [List.length_drop, List.length_take]; rfl)) ?_; (with_reducible refine (cell_Right.calls a0_0 a0_1 a0_2 true _ A33.out).mono ?_); rintro e w38 ⟨rfl, hb⟩; refine ⟨_, rfl, ?_⟩; have n0_ := Aside0.mk (blk_below (g := gb231) (o := .cells #[.int .u32 a0_0, .int .u32 a0_1, .int .i64 a0_2] 24 (0, 0)) (by (with_reducible repeat (first | refine blk_drewN ?_ _ | refine blk_drew ?_ | refine blk_alloc ?_ _)); exact BK231.out) hb); have n1_ := Aside0.mk (below_step (by repeat (first | (with_reducible first | exact HB.out | apply below_alloc | apply pw_below_drewN | apply below_drew1 | refine below_set ?_ GE231.out) | exact HB.out)) hb); clear BK231; clear HB; have BK231 := n0_; have HB := n1_; clear n0_ n1_; (try clear hb); (try clear hb2); (try clear hk); (try clear hi); have hcz39_0 : w38.cell? ⟨gb231, 0, none⟩ = some (.int .u32 a0_0) := (blk_cell BK231.out 0).trans rfl; have hcz39_1 : w38.cell? ⟨gb231, 1, none⟩ = some (.int .u32 a0_1) := (blk_cell BK231.out 1).trans rfl; have hcz39_2 : w38.cell? ⟨gb231, 2, none⟩ = some (.int .i64 a0_2) := (blk_cell BK231.out 2).trans rfl; have hfz39_0 := blk_frozen BK231.out 0; have hfz39_1 := blk_frozen BK231.out 1; have hfz39_2 := blk_frozen BK231.out 2))
              go_ret
              exact ⟨by first | rfl | (simp [errW_none, errW_some] <;> rfl) | (simp [*, errW_none, errW_some] <;> rfl), by repeat (first | (with_reducible first | exact HB.out | apply below_alloc | apply pw_below_drewN | apply below_drew1 | refine below_set ?_ GE231.out) | exact HB.out)⟩
            · replace c36 := Bool.eq_false_iff.mpr c36
              subst c36
              have H1 : (some false) = some r := by rw [if_neg (show ¬ (false = true) by decide)] at H; exact H
              clear H
              have H := H1
              clear H1
              obtain rfl := Option.some.inj H
              have hcz40_0 : wr.cell? ⟨gb231, 0, none⟩ = some (.int .u32 a0_0) := (blk_cell BK231.out 0).trans rfl
              have hcz40_1 : wr.cell? ⟨gb231, 1, none⟩ = some (.int .u32 a0_1) := (blk_cell BK231.out 1).trans rfl
              have hcz40_2 : wr.cell? ⟨gb231, 2, none⟩ = some (.int .i64 a0_2) := (blk_cell BK231.out 2).trans rfl
              have hfz40_0 := blk_frozen BK231.out 0
              have hfz40_1 := blk_frozen BK231.out 1
              have hfz40_2 := blk_frozen BK231.out 2
              go_wp2_with (first | ((with_reducible refine gate_callee (f := 13) rfl ?_); refine goesL_ (some 50) rfl rfl Try.func13 (by kernel_rfl) rfl #[.agg #[.int .u32 a0_0, .int .u32 a0_1, .int .i64 a0_2]] rfl (by (try simp only [List.map_toArray, List.map_cons, List.map_nil]); first | done | rfl | (simp only [List.length_drop, List.length_take]; rfl)) ?_; (with_reducible refine (cell_Right.calls a0_0 a0_1 a0_2 true _ A33.out).mono ?_); rintro e w41 ⟨rfl, hb⟩; refine ⟨_, rfl, ?_⟩; have n0_ := Aside0.mk (blk_below (g := gb231) (o := .cells #[.int .u32 a0_0, .int .u32 a0_1, .int .i64 a0_2] 24 (0, 0)) (by (with_reducible repeat (first | refine blk_drewN ?_ _ | refine blk_drew ?_ | refine blk_alloc ?_ _)); exact BK231.out) hb); have n1_ := Aside0.mk (below_step (by repeat (first | (with_reducible first | exact HB.out | apply below_alloc | apply pw_below_drewN | apply below_drew1 | refine below_set ?_ GE231.out) | exact HB.out)) hb); clear BK231; clear HB; have BK231 := n0_; have HB := n1_; clear n0_ n1_; (try clear hb); (try clear hb2); (try clear hk); (try clear hi); have hcz42_0 : w41.cell? ⟨gb231, 0, none⟩ = some (.int .u32 a0_0) := (blk_cell BK231.out 0).trans rfl; have hcz42_1 : w41.cell? ⟨gb231, 1, none⟩ = some (.int .u32 a0_1) := (blk_cell BK231.out 1).trans rfl; have hcz42_2 : w41.cell? ⟨gb231, 2, none⟩ = some (.int .i64 a0_2) := (blk_cell BK231.out 2).trans rfl; have hfz42_0 := blk_frozen BK231.out 0; have hfz42_1 := blk_frozen BK231.out 1; have hfz42_2 := blk_frozen BK231.out 2))
              go_ret
              exact ⟨by first | rfl | (simp [errW_none, errW_some] <;> rfl) | (simp [*, errW_none, errW_some] <;> rfl), by repeat (first | (with_reducible first | exact HB.out | apply below_alloc | apply pw_below_drewN | apply below_drew1 | refine below_set ?_ GE231.out) | exact HB.out)⟩
          · rw [if_neg c35] at H
            have c35b0 : (a0_2 == 0) = false := beq_eq_false_iff_ne.mpr c35
            have c35b1 : (a0_2 != 0) = true := bne_iff_ne.mpr c35
            by_cases c43 : t232 = true
            · subst c43
              have H1 : ((cell_Has.f a0_0 a0_1 a0_2 a1 a2).bind fun t242 => (if ((x8_1 == 1) == t242) = true then (some (decide (x8_1 ≤ 1))) else (some false))) = some r := by rw [if_pos rfl] at H; exact H
              clear H
              have H := H1
              clear H1
              replace H := Option.bind_eq_some_iff.mp H
              obtain ⟨t242, A440, H⟩ := H
              replace H : (if ((x8_1 == 1) == t242) = true then (some (decide (x8_1 ≤ 1))) else (some false)) = some r := H
              have A44 := Aside0.mk A440
              clear A440
              by_cases c45 : ((x8_1 == 1) == t242) = true
              · rw [if_pos c45] at H
                have c45b0 : ((x8_1 == 1) == t242) = true := c45
                (try (have c45b1 : decide ((x8_1 == 1) = t242) = true := by simpa using c45))
                (try (have c45b2 : ((x8_1 == 1) == t242) = true := by simpa using c45))
                clear c45
                obtain rfl := Option.some.inj H
                have hcz46_0 : wr.cell? ⟨gb231, 0, none⟩ = some (.int .u32 a0_0) := (blk_cell BK231.out 0).trans rfl
                have hcz46_1 : wr.cell? ⟨gb231, 1, none⟩ = some (.int .u32 a0_1) := (blk_cell BK231.out 1).trans rfl
                have hcz46_2 : wr.cell? ⟨gb231, 2, none⟩ = some (.int .i64 a0_2) := (blk_cell BK231.out 2).trans rfl
                have hfz46_0 := blk_frozen BK231.out 0
                have hfz46_1 := blk_frozen BK231.out 1
                have hfz46_2 := blk_frozen BK231.out 2
                go_wp2_with (first | ((with_reducible refine gate_callee (f := 13) rfl ?_); refine goesL_ (some 50) rfl rfl Try.func13 (by kernel_rfl) rfl #[.agg #[.int .u32 a0_0, .int .u32 a0_1, .int .i64 a0_2]] rfl (by (try simp only [List.map_toArray, List.map_cons, List.map_nil]); first | done | rfl | (simp only [List.length_drop, List.length_take]; rfl)) ?_; (with_reducible refine (cell_Right.calls a0_0 a0_1 a0_2 true _ A33.out).mono ?_); rintro e w47 ⟨rfl, hb⟩; refine ⟨_, rfl, ?_⟩; have n0_ := Aside0.mk (blk_below (g := gb231) (o := .cells #[.int .u32 a0_0, .int .u32 a0_1, .int .i64 a0_2] 24 (0, 0)) (by (with_reducible repeat (first | refine blk_drewN ?_ _ | refine blk_drew ?_ | refine blk_alloc ?_ _)); exact BK231.out) hb); have n1_ := Aside0.mk (below_step (by repeat (first | (with_reducible first | exact HB.out | apply below_alloc | apply pw_below_drewN | apply below_drew1 | refine below_set ?_ GE231.out) | exact HB.out)) hb); clear BK231; clear HB; have BK231 := n0_; have HB := n1_; clear n0_ n1_; (try clear hb); (try clear hb2); (try clear hk); (try clear hi); have hcz48_0 : w47.cell? ⟨gb231, 0, none⟩ = some (.int .u32 a0_0) := (blk_cell BK231.out 0).trans rfl; have hcz48_1 : w47.cell? ⟨gb231, 1, none⟩ = some (.int .u32 a0_1) := (blk_cell BK231.out 1).trans rfl; have hcz48_2 : w47.cell? ⟨gb231, 2, none⟩ = some (.int .i64 a0_2) := (blk_cell BK231.out 2).trans rfl; have hfz48_0 := blk_frozen BK231.out 0; have hfz48_1 := blk_frozen BK231.out 1; have hfz48_2 := blk_frozen BK231.out 2) | (go_at_call 17; (with_reducible refine (cell_Has.calls a0_0 a0_1 a0_2 a1 a2 t242 _ A44.out).mono ?_); rintro e w49 ⟨rfl, hb⟩; have n0_ := Aside0.mk (blk_below (g := gb231) (o := .cells #[.int .u32 a0_0, .int .u32 a0_1, .int .i64 a0_2] 24 (0, 0)) (by (with_reducible repeat (first | refine blk_drewN ?_ _ | refine blk_drew ?_ | refine blk_alloc ?_ _)); exact BK231.out) hb); have n1_ := Aside0.mk (below_step (by repeat (first | (with_reducible first | exact HB.out | apply below_alloc | apply pw_below_drewN | apply below_drew1 | refine below_set ?_ GE231.out) | exact HB.out)) hb); clear BK231; clear HB; have BK231 := n0_; have HB := n1_; clear n0_ n1_; (try clear hb); (try clear hb2); (try clear hk); (try clear hi)))
                go_ret
                exact ⟨by first | rfl | (simp [errW_none, errW_some] <;> rfl) | (simp [*, errW_none, errW_some] <;> rfl), by repeat (first | (with_reducible first | exact HB.out | apply below_alloc | apply pw_below_drewN | apply below_drew1 | refine below_set ?_ GE231.out) | exact HB.out)⟩
              · rw [if_neg c45] at H
                have c45b0 : ((x8_1 == 1) == t242) = false := by simpa using c45
                (try (have c45b1 : decide ((x8_1 == 1) = t242) = false := by simpa using c45))
                (try (have c45b2 : ((x8_1 == 1) == t242) = false := by simpa using c45))
                (try (have c45b3 : ¬ ((x8_1 == 1) = t242) := by simpa using c45))
                clear c45
                obtain rfl := Option.some.inj H
                have hcz50_0 : wr.cell? ⟨gb231, 0, none⟩ = some (.int .u32 a0_0) := (blk_cell BK231.out 0).trans rfl
                have hcz50_1 : wr.cell? ⟨gb231, 1, none⟩ = some (.int .u32 a0_1) := (blk_cell BK231.out 1).trans rfl
                have hcz50_2 : wr.cell? ⟨gb231, 2, none⟩ = some (.int .i64 a0_2) := (blk_cell BK231.out 2).trans rfl
                have hfz50_0 := blk_frozen BK231.out 0
                have hfz50_1 := blk_frozen BK231.out 1
                have hfz50_2 := blk_frozen BK231.out 2
                go_wp2_with (first | ((with_reducible refine gate_callee (f := 13) rfl ?_); refine goesL_ (some 50) rfl rfl Try.func13 (by kernel_rfl) rfl #[.agg #[.int .u32 a0_0, .int .u32 a0_1, .int .i64 a0_2]] rfl (by (try simp only [List.map_toArray, List.map_cons, List.map_nil]); first | done | rfl | (simp only [List.length_drop, List.length_take]; rfl)) ?_; (with_reducible refine (cell_Right.calls a0_0 a0_1 a0_2 true _ A33.out).mono ?_); rintro e w51 ⟨rfl, hb⟩; refine ⟨_, rfl, ?_⟩; have n0_ := Aside0.mk (blk_below (g := gb231) (o := .cells #[.int .u32 a0_0, .int .u32 a0_1, .int .i64 a0_2] 24 (0, 0)) (by (with_reducible repeat (first | refine blk_drewN ?_ _ | refine blk_drew ?_ | refine blk_alloc ?_ _)); exact BK231.out) hb); have n1_ := Aside0.mk (below_step (by repeat (first | (with_reducible first | exact HB.out | apply below_alloc | apply pw_below_drewN | apply below_drew1 | refine below_set ?_ GE231.out) | exact HB.out)) hb); clear BK231; clear HB; have BK231 := n0_; have HB := n1_; clear n0_ n1_; (try clear hb); (try clear hb2); (try clear hk); (try clear hi); have hcz52_0 : w51.cell? ⟨gb231, 0, none⟩ = some (.int .u32 a0_0) := (blk_cell BK231.out 0).trans rfl; have hcz52_1 : w51.cell? ⟨gb231, 1, none⟩ = some (.int .u32 a0_1) := (blk_cell BK231.out 1).trans rfl; have hcz52_2 : w51.cell? ⟨gb231, 2, none⟩ = some (.int .i64 a0_2) := (blk_cell BK231.out 2).trans rfl; have hfz52_0 := blk_frozen BK231.out 0; have hfz52_1 := blk_frozen BK231.out 1; have hfz52_2 := blk_frozen BK231.out 2) | (go_at_call 17; (with_reducible refine (cell_Has.calls a0_0 a0_1 a0_2 a1 a2 t242 _ A44.out).mono ?_); rintro e w53 ⟨rfl, hb⟩; have n0_ := Aside0.mk (blk_below (g := gb231) (o := .cells #[.int .u32 a0_0, .int .u32 a0_1, .int .i64 a0_2] 24 (0, 0)) (by (with_reducible repeat (first | refine blk_drewN ?_ _ | refine blk_drew ?_ | refine blk_alloc ?_ _)); exact BK231.out) hb); have n1_ := Aside0.mk (below_step (by repeat (first | (with_reducible first | exact HB.out | apply below_alloc | apply pw_below_drewN | apply below_drew1 | refine below_set ?_ GE231.out) | exact HB.out)) hb); clear BK231; clear HB; have BK231 := n0_; have HB := n1_; clear n0_ n1_; (try clear hb); (try clear hb2); (try clear hk); (try clear hi)))
                go_ret
                exact ⟨by first | rfl | (simp [errW_none, errW_some] <;> rfl) | (simp [*, errW_none, errW_some] <;> rfl), by repeat (first | (with_reducible first | exact HB.out | apply below_alloc | apply pw_below_drewN | apply below_drew1 | refine below_set ?_ GE231.out) | exact HB.out)⟩
            · replace c43 := Bool.eq_false_iff.mpr c43
              subst c43
              have H1 : (some false) = some r := by rw [if_neg (show ¬ (false = true) by decide)] at H; exact H
              clear H
              have H := H1
              clear H1
              obtain rfl := Option.some.inj H
              have hcz54_0 : wr.cell? ⟨gb231, 0, none⟩ = some (.int .u32 a0_0) := (blk_cell BK231.out 0).trans rfl
              have hcz54_1 : wr.cell? ⟨gb231, 1, none⟩ = some (.int .u32 a0_1) := (blk_cell BK231.out 1).trans rfl
              have hcz54_2 : wr.cell? ⟨gb231, 2, none⟩ = some (.int .i64 a0_2) := (blk_cell BK231.out 2).trans rfl
              have hfz54_0 := blk_frozen BK231.out 0
              have hfz54_1 := blk_frozen BK231.out 1
              have hfz54_2 := blk_frozen BK231.out 2
              go_wp2_with (first | ((with_reducible refine gate_callee (f := 13) rfl ?_); refine goesL_ (some 50) rfl rfl Try.func13 (by kernel_rfl) rfl #[.agg #[.int .u32 a0_0, .int .u32 a0_1, .int .i64 a0_2]] rfl (by (try simp only [List.map_toArray, List.map_cons, List.map_nil]); first | done | rfl | (simp only [List.length_drop, List.length_take]; rfl)) ?_; (with_reducible refine (cell_Right.calls a0_0 a0_1 a0_2 true _ A33.out).mono ?_); rintro e w55 ⟨rfl, hb⟩; refine ⟨_, rfl, ?_⟩; have n0_ := Aside0.mk (blk_below (g := gb231) (o := .cells #[.int .u32 a0_0, .int .u32 a0_1, .int .i64 a0_2] 24 (0, 0)) (by (with_reducible repeat (first | refine blk_drewN ?_ _ | refine blk_drew ?_ | refine blk_alloc ?_ _)); exact BK231.out) hb); have n1_ := Aside0.mk (below_step (by repeat (first | (with_reducible first | exact HB.out | apply below_alloc | apply pw_below_drewN | apply below_drew1 | refine below_set ?_ GE231.out) | exact HB.out)) hb); clear BK231; clear HB; have BK231 := n0_; have HB := n1_; clear n0_ n1_; (try clear hb); (try clear hb2); (try clear hk); (try clear hi); have hcz56_0 : w55.cell? ⟨gb231, 0, none⟩ = some (.int .u32 a0_0) := (blk_cell BK231.out 0).trans rfl; have hcz56_1 : w55.cell? ⟨gb231, 1, none⟩ = some (.int .u32 a0_1) := (blk_cell BK231.out 1).trans rfl; have hcz56_2 : w55.cell? ⟨gb231, 2, none⟩ = some (.int .i64 a0_2) := (blk_cell BK231.out 2).trans rfl; have hfz56_0 := blk_frozen BK231.out 0; have hfz56_1 := blk_frozen BK231.out 1; have hfz56_2 := blk_frozen BK231.out 2))
              go_ret
              exact ⟨by first | rfl | (simp [errW_none, errW_some] <;> rfl) | (simp [*, errW_none, errW_some] <;> rfl), by repeat (first | (with_reducible first | exact HB.out | apply below_alloc | apply pw_below_drewN | apply below_drew1 | refine below_set ?_ GE231.out) | exact HB.out)⟩
        · replace c34 := Bool.eq_false_iff.mpr c34
          subst c34
          have H1 : (if t232 = true then (some (x8_1 == 0)) else (some false)) = some r := by rw [if_neg (show ¬ (false = true) by decide)] at H; exact H
          clear H
          have H := H1
          clear H1
          by_cases c57 : t232 = true
          · subst c57
            have H1 : (some (x8_1 == 0)) = some r := by rw [if_pos rfl] at H; exact H
            clear H
            have H := H1
            clear H1
            obtain rfl := Option.some.inj H
            have hcz58_0 : wr.cell? ⟨gb231, 0, none⟩ = some (.int .u32 a0_0) := (blk_cell BK231.out 0).trans rfl
            have hcz58_1 : wr.cell? ⟨gb231, 1, none⟩ = some (.int .u32 a0_1) := (blk_cell BK231.out 1).trans rfl
            have hcz58_2 : wr.cell? ⟨gb231, 2, none⟩ = some (.int .i64 a0_2) := (blk_cell BK231.out 2).trans rfl
            have hfz58_0 := blk_frozen BK231.out 0
            have hfz58_1 := blk_frozen BK231.out 1
            have hfz58_2 := blk_frozen BK231.out 2
            go_wp2_with (first | ((with_reducible refine gate_callee (f := 13) rfl ?_); refine goesL_ (some 50) rfl rfl Try.func13 (by kernel_rfl) rfl #[.agg #[.int .u32 a0_0, .int .u32 a0_1, .int .i64 a0_2]] rfl (by (try simp only [List.map_toArray, List.map_cons, List.map_nil]); first | done | rfl | (simp only [List.length_drop, List.length_take]; rfl)) ?_; (with_reducible refine (cell_Right.calls a0_0 a0_1 a0_2 false _ A33.out).mono ?_); rintro e w59 ⟨rfl, hb⟩; refine ⟨_, rfl, ?_⟩; have n0_ := Aside0.mk (blk_below (g := gb231) (o := .cells #[.int .u32 a0_0, .int .u32 a0_1, .int .i64 a0_2] 24 (0, 0)) (by (with_reducible repeat (first | refine blk_drewN ?_ _ | refine blk_drew ?_ | refine blk_alloc ?_ _)); exact BK231.out) hb); have n1_ := Aside0.mk (below_step (by repeat (first | (with_reducible first | exact HB.out | apply below_alloc | apply pw_below_drewN | apply below_drew1 | refine below_set ?_ GE231.out) | exact HB.out)) hb); clear BK231; clear HB; have BK231 := n0_; have HB := n1_; clear n0_ n1_; (try clear hb); (try clear hb2); (try clear hk); (try clear hi)))
            go_ret
            exact ⟨by first | rfl | (simp [errW_none, errW_some] <;> rfl) | (simp [*, errW_none, errW_some] <;> rfl), by repeat (first | (with_reducible first | exact HB.out | apply below_alloc | apply pw_below_drewN | apply below_drew1 | refine below_set ?_ GE231.out) | exact HB.out)⟩
          · replace c57 := Bool.eq_false_iff.mpr c57
            subst c57
            have H1 : (some false) = some r := by rw [if_neg (show ¬ (false = true) by decide)] at H; exact H
            clear H
            have H := H1
            clear H1
            obtain rfl := Option.some.inj H
            have hcz60_0 : wr.cell? ⟨gb231, 0, none⟩ = some (.int .u32 a0_0) := (blk_cell BK231.out 0).trans rfl
            have hcz60_1 : wr.cell? ⟨gb231, 1, none⟩ = some (.int .u32 a0_1) := (blk_cell BK231.out 1).trans rfl
            have hcz60_2 : wr.cell? ⟨gb231, 2, none⟩ = some (.int .i64 a0_2) := (blk_cell BK231.out 2).trans rfl
            have hfz60_0 := blk_frozen BK231.out 0
            have hfz60_1 := blk_frozen BK231.out 1
            have hfz60_2 := blk_frozen BK231.out 2
            go_wp2_with (first | ((with_reducible refine gate_callee (f := 13) rfl ?_); refine goesL_ (some 50) rfl rfl Try.func13 (by kernel_rfl) rfl #[.agg #[.int .u32 a0_0, .int .u32 a0_1, .int .i64 a0_2]] rfl (by (try simp only [List.map_toArray, List.map_cons, List.map_nil]); first | done | rfl | (simp only [List.length_drop, List.length_take]; rfl)) ?_; (with_reducible refine (cell_Right.calls a0_0 a0_1 a0_2 false _ A33.out).mono ?_); rintro e w61 ⟨rfl, hb⟩; refine ⟨_, rfl, ?_⟩; have n0_ := Aside0.mk (blk_below (g := gb231) (o := .cells #[.int .u32 a0_0, .int .u32 a0_1, .int .i64 a0_2] 24 (0, 0)) (by (with_reducible repeat (first | refine blk_drewN ?_ _ | refine blk_drew ?_ | refine blk_alloc ?_ _)); exact BK231.out) hb); have n1_ := Aside0.mk (below_step (by repeat (first | (with_reducible first | exact HB.out | apply below_alloc | apply pw_below_drewN | apply below_drew1 | refine below_set ?_ GE231.out) | exact HB.out)) hb); clear BK231; clear HB; have BK231 := n0_; have HB := n1_; clear n0_ n1_; (try clear hb); (try clear hb2); (try clear hk); (try clear hi)))
            go_ret
            exact ⟨by first | rfl | (simp [errW_none, errW_some] <;> rfl) | (simp [*, errW_none, errW_some] <;> rfl), by repeat (first | (with_reducible first | exact HB.out | apply below_alloc | apply pw_below_drewN | apply below_drew1 | refine below_set ?_ GE231.out) | exact HB.out)⟩

end Go.Proofs.Ytnpnmbfbdnbeoaa.P

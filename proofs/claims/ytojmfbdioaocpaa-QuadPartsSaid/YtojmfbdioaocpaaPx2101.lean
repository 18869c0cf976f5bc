-- Laid by a program of this session: the walk of functions of the translation, for this claim.
import Derived.Test.YtojmfbdioaocpaaPx0
import Derived.Test.YtojmfbdioaocpaaPx4
import Derived.Test.YtojmfbdioaocpaaPx16
import Derived.Test.YtojmfbdioaocpaaPx21
import Derived.Test.YtojmfbdioaocpaaPx1902
namespace Go.Proofs.Ytojmfbdioaocpaa.P
open Go.RowKit Go.Proofs.YtojmfbdioaocpaaOwn Go.Proofs.YtojmfbdioaocpaaW.PrintWords Go.Proofs.YtojmfbdioaocpaaW.PrintLast Go.Proofs.YtojmfbdioaocpaaW.PrintMore
attribute [local go_sem] max2_int min2_int max_two min_two max_three min_three max_four min_four   -- for this text's walks alone
set_option linter.unusedVariables false
set_option linter.unusedSimpArgs false

/-! ### quad_count: function 53 -/
mutual
def quad_count.l0 : Nat → Int → List (S26) → Int → Int → Int → Int → Int → List (S26) → List (S33) → Int → Int → Int → Int → Option (Int)
  | 0, _, _, _, _, _, _, _, _, _, _, _, _, _ => none
  | k + 1, x5, x24, x25, x26, x355000, x355001, x355002, x355003, x355004, x356000, x356001, x356002, x356003 => if x26 < x25 then (if 0 ≤ x26 then (if x26 < (x24.length : Int) then ((cell_In.f x356000 x356001 x356002 x356003 ((rd_T26 x24 x26).f1) ((rd_T26 x24 x26).f2)).bind fun t361 => (if t361 = true then (quad_count.l0 k (wrap64 (x5 + 1)) x24 x25 (wrap64 (x26 + 1)) x355000 x355001 x355002 x355003 x355004 x356000 x356001 x356002 x356003) else (quad_count.l0 k x5 x24 x25 (wrap64 (x26 + 1)) x355000 x355001 x355002 x355003 x355004 x356000 x356001 x356002 x356003))) else (none)) else (none)) else (quad_count.l1 k x5 x355004 (x355004.length : Int) 0 x356000 x356001 x356002 x356003)
def quad_count.l1 : Nat → Int → List (S33) → Int → Int → Int → Int → Int → Int → Option (Int)
  | 0, _, _, _, _, _, _, _, _ => none
  | k + 1, x5, x40, x41, x42, x356000, x356001, x356002, x356003 => if x42 < x41 then (if 0 ≤ x42 then (if x42 < (x40.length : Int) then ((quad_count.f k ((rd_T33 x40 x42).f0.f0) ((rd_T33 x40 x42).f0.f1) ((rd_T33 x40 x42).f0.f2) ((rd_T33 x40 x42).f1) ((rd_T33 x40 x42).f2) x356000 x356001 x356002 x356003).bind fun t364 => (quad_count.l1 k (wrap64 (x5 + t364)) x40 x41 (wrap64 (x42 + 1)) x356000 x356001 x356002 x356003)) else (none)) else (none)) else (some x5)
def quad_count.f : Nat → Int → Int → Int → List (S26) → List (S33) → Int → Int → Int → Int → Option (Int)
  | 0, _, _, _, _, _, _, _, _, _ => none
  | k + 1, a0_0, a0_1, a0_2, l0_3, l0_4, a1_0, a1_1, a1_2, a1_3 => (cell_Touches.f a0_0 a0_1 a0_2 a1_0 a1_1 a1_2 a1_3).bind fun t356 => (if t356 = true then ((cell_Within.f a0_0 a0_1 a0_2 a1_0 a1_1 a1_2 a1_3).bind fun t357 => (if t357 = true then ((quad_Size.f k a0_0 a0_1 a0_2 l0_3 l0_4).bind fun t358 => (some t358)) else (quad_count.l0 k 0 l0_3 (l0_3.length : Int) 0 a0_0 a0_1 a0_2 l0_3 l0_4 a1_0 a1_1 a1_2 a1_3))) else (some 0))
end
theorem quad_count.mono_l : ∀ k, (∀ y0 y1 y2 y3 y4 y5 y6 y7 y8, LeO (quad_count.f k y0 y1 y2 y3 y4 y5 y6 y7 y8) (quad_count.f (k + 1) y0 y1 y2 y3 y4 y5 y6 y7 y8)) ∧ (∀ y0 y1 y2 y3 y4 y5 y6 y7 y8 y9 y10 y11 y12, LeO (quad_count.l0 k y0 y1 y2 y3 y4 y5 y6 y7 y8 y9 y10 y11 y12) (quad_count.l0 (k + 1) y0 y1 y2 y3 y4 y5 y6 y7 y8 y9 y10 y11 y12)) ∧ (∀ y0 y1 y2 y3 y4 y5 y6 y7, LeO (quad_count.l1 k y0 y1 y2 y3 y4 y5 y6 y7) (quad_count.l1 (k + 1) y0 y1 y2 y3 y4 y5 y6 y7))
  | 0 => ⟨fun _ _ _ _ _ _ _ _ _ r h => by simp [quad_count.f] at h, fun _ _ _ _ _ _ _ _ _ _ _ _ _ r h => by simp [quad_count.l0] at h, fun _ _ _ _ _ _ _ _ r h => by simp [quad_count.l1] at h⟩
  | k + 1 => by
    obtain ⟨ih0, ih1, ih2⟩ := quad_count.mono_l k
    refine ⟨?_, ?_, ?_⟩
    · intro y0 y1 y2 y3 y4 y5 y6 y7 y8
      unfold quad_count.f
      repeat' first
      | (with_reducible exact ih0 _ _ _ _ _ _ _ _ _)
      | (with_reducible exact ih1 _ _ _ _ _ _ _ _ _ _ _ _ _)
      | (with_reducible exact ih2 _ _ _ _ _ _ _ _)
      | (with_reducible exact quad_Size.mono _ _ _ _ _ _)
      | (with_reducible exact LeO.refl _)
      | (with_reducible exact LeO.none _)
      | (with_reducible refine LeO.ite ?_ ?_)
      | (with_reducible refine LeO.bind ?_ (fun _ => ?_))
      | exact ih0 _ _ _ _ _ _ _ _ _
      | exact ih1 _ _ _ _ _ _ _ _ _ _ _ _ _
      | exact ih2 _ _ _ _ _ _ _ _
      | exact quad_Size.mono _ _ _ _ _ _
      | exact LeO.none _
      | refine LeO.ite ?_ ?_
      | refine LeO.bind ?_ (fun _ => ?_)
    · intro y0 y1 y2 y3 y4 y5 y6 y7 y8 y9 y10 y11 y12
      unfold quad_count.l0
      repeat' first
      | (with_reducible exact ih0 _ _ _ _ _ _ _ _ _)
      | (with_reducible exact ih1 _ _ _ _ _ _ _ _ _ _ _ _ _)
      | (with_reducible exact ih2 _ _ _ _ _ _ _ _)
      | (with_reducible exact quad_Size.mono _ _ _ _ _ _)
      | (with_reducible exact LeO.refl _)
      | (with_reducible exact LeO.none _)
      | (with_reducible refine LeO.ite ?_ ?_)
      | (with_reducible refine LeO.bind ?_ (fun _ => ?_))
      | exact ih0 _ _ _ _ _ _ _ _ _
      | exact ih1 _ _ _ _ _ _ _ _ _ _ _ _ _
      | exact ih2 _ _ _ _ _ _ _ _
      | exact quad_Size.mono _ _ _ _ _ _
      | exact LeO.none _
      | refine LeO.ite ?_ ?_
      | refine LeO.bind ?_ (fun _ => ?_)
    · intro y0 y1 y2 y3 y4 y5 y6 y7
      unfold quad_count.l1
      repeat' first
      | (with_reducible exact ih0 _ _ _ _ _ _ _ _ _)
      | (with_reducible exact ih1 _ _ _ _ _ _ _ _ _ _ _ _ _)
      | (with_reducible exact ih2 _ _ _ _ _ _ _ _)
      | (with_reducible exact quad_Size.mono _ _ _ _ _ _)
      | (with_reducible exact LeO.refl _)
      | (with_reducible exact LeO.none _)
      | (with_reducible refine LeO.ite ?_ ?_)
      | (with_reducible refine LeO.bind ?_ (fun _ => ?_))
      | exact ih0 _ _ _ _ _ _ _ _ _
      | exact ih1 _ _ _ _ _ _ _ _ _ _ _ _ _
      | exact ih2 _ _ _ _ _ _ _ _
      | exact quad_Size.mono _ _ _ _ _ _
      | exact LeO.none _
      | refine LeO.ite ?_ ?_
      | refine LeO.bind ?_ (fun _ => ?_)
theorem quad_count.mono : ∀ a0 a1 a2 a3 a4 a5 a6 a7 a8 k, LeO (quad_count.f k a0 a1 a2 a3 a4 a5 a6 a7 a8) (quad_count.f (k + 1) a0 a1 a2 a3 a4 a5 a6 a7 a8) := by
  intro a0 a1 a2 a3 a4 a5 a6 a7 a8 k
  obtain ⟨ih0, ih1, ih2⟩ := quad_count.mono_l k
  exact ih0 a0 a1 a2 a3 a4 a5 a6 a7 a8
set_option maxHeartbeats 8000000 in
set_option maxRecDepth 100000 in
theorem quad_count.calls (k : Nat) : ∀ (a0_0 : Int) (a0_1 : Int) (a0_2 : Int) (A0_3 : Option Addr) (c0_3 : Nat) (l0_3 : List (S26)) (A0_4 : Option Addr) (c0_4 : Nat) (l0_4 : List (S33)) (a1_0 : Int) (a1_1 : Int) (a1_2 : Int) (a1_3 : Int) (r : Int) (w : World) (hr0_3 : Kd.C k26 w A0_3 l0_3.length l0_3) (hc0_3 : l0_3.length ≤ c0_3) (hr0_4 : Kd.C k33 w A0_4 l0_4.length l0_4) (hc0_4 : l0_4.length ≤ c0_4) (h : quad_count.f k a0_0 a0_1 a0_2 l0_3 l0_4 a1_0 a1_1 a1_2 a1_3 = some r),
    Calls Try.prog 53 #[.agg #[.int .u32 a0_0, .int .u32 a0_1, .int .i64 a0_2, .slice A0_3 l0_3.length c0_3, .slice A0_4 l0_4.length c0_4], .agg #[.int .u32 a1_0, .int .u32 a1_1, .int .u32 a1_2, .int .u32 a1_3]] w fun e w' => e = .returned (.int .i64 r) ∧ Below w.heap.size w w' := by
  induction k using Nat.strongRecOn with
  | _ k ih =>
  intro a0_0 a0_1 a0_2 A0_3 c0_3 l0_3 A0_4 c0_4 l0_4 a1_0 a1_1 a1_2 a1_3 r w hr0_3 hc0_3 hr0_4 hc0_4 h
  cases k with
  | zero => exact absurd h (by simp [quad_count.f])
  | succ k =>
  simp only [quad_count.f] at h
  have hu33 := Try.underlying33
  have hu53 := Try.underlying53
  have hu30 := Try.underlying30
  have hu26 := Try.underlying26
  have HR0_3 := Aside0.mk hr0_3
  have HC0_3 := Aside0.mk hc0_3
  clear hr0_3 hc0_3
  have HR0_4 := Aside0.mk hr0_4
  have HC0_4 := Aside0.mk hc0_4
  clear hr0_4 hc0_4
  have HB := Aside0.mk (Below.refl w.heap.size w)
  have H : ((cell_Touches.f a0_0 a0_1 a0_2 a1_0 a1_1 a1_2 a1_3).bind fun t356 => (if t356 = true then ((cell_Within.f a0_0 a0_1 a0_2 a1_0 a1_1 a1_2 a1_3).bind fun t357 => (if t357 = true then ((quad_Size.f k a0_0 a0_1 a0_2 l0_3 l0_4).bind fun t358 => (some t358)) else (quad_count.l0 k 0 l0_3 (l0_3.length : Int) 0 a0_0 a0_1 a0_2 l0_3 l0_4 a1_0 a1_1 a1_2 a1_3))) else (some 0))) = some r := h
  clear h
  replace H := Option.bind_eq_some_iff.mp H
  obtain ⟨t356, A30, H⟩ := H
  replace H : (if t356 = true then ((cell_Within.f a0_0 a0_1 a0_2 a1_0 a1_1 a1_2 a1_3).bind fun t357 => (if t357 = true then ((quad_Size.f k a0_0 a0_1 a0_2 l0_3 l0_4).bind fun t358 => (some t358)) else (quad_count.l0 k 0 l0_3 (l0_3.length : Int) 0 a0_0 a0_1 a0_2 l0_3 l0_4 a1_0 a1_1 a1_2 a1_3))) else (some 0)) = some r := H
  have A3 := Aside0.mk A30
  clear A30
  by_cases c4 : t356 = true
  · subst c4
    have H1 : ((cell_Within.f a0_0 a0_1 a0_2 a1_0 a1_1 a1_2 a1_3).bind fun t357 => (if t357 = true then ((quad_Size.f k a0_0 a0_1 a0_2 l0_3 l0_4).bind fun t358 => (some t358)) else (quad_count.l0 k 0 l0_3 (l0_3.length : Int) 0 a0_0 a0_1 a0_2 l0_3 l0_4 a1_0 a1_1 a1_2 a1_3))) = some r := by rw [if_pos rfl] at H; exact H
    clear H
    have H := H1
    clear H1
    replace H := Option.bind_eq_some_iff.mp H
    obtain ⟨t357, A50, H⟩ := H
    replace H : (if t357 = true then ((quad_Size.f k a0_0 a0_1 a0_2 l0_3 l0_4).bind fun t358 => (some t358)) else (quad_count.l0 k 0 l0_3 (l0_3.length : Int) 0 a0_0 a0_1 a0_2 l0_3 l0_4 a1_0 a1_1 a1_2 a1_3)) = some r := H
    have A5 := Aside0.mk A50
    clear A50
    by_cases c6 : t357 = true
    · subst c6
      have H1 : ((quad_Size.f k a0_0 a0_1 a0_2 l0_3 l0_4).bind fun t358 => (some t358)) = some r := by rw [if_pos rfl] at H; exact H
      clear H
      have H := H1
      clear H1
      replace H := Option.bind_eq_some_iff.mp H
      obtain ⟨t358, A70, H⟩ := H
      replace H : (some t358) = some r := H
      have A7 := Aside0.mk A70
      clear A70
      obtain rfl := Option.some.inj H
      go_enter Try.func53, Try.ntmps53
      go_wp2_with (first | ((with_reducible refine gate_dst (N := 2) rfl ?_); refine box_event ?hg (N := 2) ?hd (cs := #[.int .u32 a0_0, .int .u32 a0_1, .int .i64 a0_2, .slice A0_3 l0_3.length c0_3, .slice A0_4 l0_4.length c0_4]) (t := 33) ?hr ?_; (case hd => rfl); (case hg => rfl); (case hr => first | (go_simp; done) | (go_simp; rfl)); intro gb354 hg w8 hbox hb; have n0_ := Aside0.mk (below_step (by repeat (first | (with_reducible first | exact HB.out | apply below_alloc | apply pw_below_drewN | apply below_drew1) | exact HB.out)) hb); have n1_ := Aside0.mk (hbox); have n2_ := Aside0.mk ((by rw [hg]; exact (below_size (by repeat (first | (with_reducible first | exact HB.out | apply below_alloc | apply pw_below_drewN | apply below_drew1) | exact HB.out))) : w.heap.size ≤ gb354)); have n3_ := Aside0.mk ((by rw [hg]; exact (below_size (by repeat (first | (with_reducible first | exact HB.out | apply below_alloc | apply pw_below_drewN | apply below_drew1) | exact HB.out))) : w.heap.size ≤ gb354)); clear HB; have HB := n0_; have BK354 := n1_; have GW354 := n2_; have GE354 := n3_; clear n0_ n1_ n2_ n3_; clear hb hbox hg) | ((with_reducible refine gate_dst (N := 3) rfl ?_); refine box_event ?hg (N := 3) ?hd (cs := #[.int .u32 a1_0, .int .u32 a1_1, .int .u32 a1_2, .int .u32 a1_3]) (t := 53) ?hr ?_; (case hd => rfl); (case hg => rfl); (case hr => first | (go_simp; done) | (go_simp; rfl)); intro gb355 hg w9 hbox hb; have n0_ := Aside0.mk (blk_below (g := gb354) (o := .cells #[.int .u32 a0_0, .int .u32 a0_1, .int .i64 a0_2, .slice A0_3 l0_3.length c0_3, .slice A0_4 l0_4.length c0_4] 33 (0, 0)) (by (with_reducible repeat (first | refine blk_drewN ?_ _ | refine blk_drew ?_ | refine blk_alloc ?_ _)); exact BK354.out) hb); have n1_ := Aside0.mk (below_step (by repeat (first | (with_reducible first | exact HB.out | apply below_alloc | apply pw_below_drewN | apply below_drew1 | refine below_set ?_ GE354.out) | exact HB.out)) hb); have n2_ := Aside0.mk (hbox); have n3_ := Aside0.mk ((by rw [hg]; exact (below_size (by repeat (first | (with_reducible first | exact HB.out | apply below_alloc | apply pw_below_drewN | apply below_drew1 | refine below_set ?_ GE354.out) | exact HB.out))) : w.heap.size ≤ gb355)); have n4_ := Aside0.mk ((by rw [hg]; exact (below_size (by repeat (first | (with_reducible first | exact HB.out | apply below_alloc | apply pw_below_drewN | apply below_drew1 | refine below_set ?_ GE354.out) | exact HB.out))) : w.heap.size ≤ gb355)); have n5_ := Aside0.mk ((by rw [hg]; exact Nat.ne_of_lt (blk_lt (g := gb354) (o := .cells #[.int .u32 a0_0, .int .u32 a0_1, .int .i64 a0_2, .slice A0_3 l0_3.length c0_3, .slice A0_4 l0_4.length c0_4] 33 (0, 0)) (by (with_reducible repeat (first | refine blk_drewN ?_ _ | refine blk_drew ?_ | refine blk_alloc ?_ _)); exact BK354.out)) : gb354 ≠ gb355)); have n6_ := Aside0.mk ((by rw [hg]; exact Nat.ne_of_gt (blk_lt (g := gb354) (o := .cells #[.int .u32 a0_0, .int .u32 a0_1, .int .i64 a0_2, .slice A0_3 l0_3.length c0_3, .slice A0_4 l0_4.length c0_4] 33 (0, 0)) (by (with_reducible repeat (first | refine blk_drewN ?_ _ | refine blk_drew ?_ | refine blk_alloc ?_ _)); exact BK354.out)) : gb355 ≠ gb354)); clear BK354; clear HB; have BK354 := n0_; have HB := n1_; have BK355 := n2_; have GW355 := n3_; have GE355 := n4_; have NB354_355 := n5_; have NB355_354 := n6_; clear n0_ n1_ n2_ n3_ n4_ n5_ n6_; clear hb hbox hg; have hnb10 := NB354_355.out; have hnc10 := NB355_354.out; have hcz11_0 : w9.cell? ⟨gb354, 0, none⟩ = some (.int .u32 a0_0) := (blk_cell BK354.out 0).trans rfl; have hcz11_1 : w9.cell? ⟨gb354, 1, none⟩ = some (.int .u32 a0_1) := (blk_cell BK354.out 1).trans rfl; have hcz11_2 : w9.cell? ⟨gb354, 2, none⟩ = some (.int .i64 a0_2) := (blk_cell BK354.out 2).trans rfl; have hcz11_3 : w9.cell? ⟨gb354, 3, none⟩ = some (.slice A0_3 l0_3.length c0_3) := (blk_cell BK354.out 3).trans rfl; have hcz11_4 : w9.cell? ⟨gb354, 4, none⟩ = some (.slice A0_4 l0_4.length c0_4) := (blk_cell BK354.out 4).trans rfl; have hfz11_0 := blk_frozen BK354.out 0; have hfz11_1 := blk_frozen BK354.out 1; have hfz11_2 := blk_frozen BK354.out 2; have hfz11_3 := blk_frozen BK354.out 3; have hfz11_4 := blk_frozen BK354.out 4; have hcz12_0 : w9.cell? ⟨gb355, 0, none⟩ = some (.int .u32 a1_0) := (blk_cell BK355.out 0).trans rfl; have hcz12_1 : w9.cell? ⟨gb355, 1, none⟩ = some (.int .u32 a1_1) := (blk_cell BK355.out 1).trans rfl; have hcz12_2 : w9.cell? ⟨gb355, 2, none⟩ = some (.int .u32 a1_2) := (blk_cell BK355.out 2).trans rfl; have hcz12_3 : w9.cell? ⟨gb355, 3, none⟩ = some (.int .u32 a1_3) := (blk_cell BK355.out 3).trans rfl; have hfz12_0 := blk_frozen BK355.out 0; have hfz12_1 := blk_frozen BK355.out 1; have hfz12_2 := blk_frozen BK355.out 2; have hfz12_3 := blk_frozen BK355.out 3) | ((with_reducible refine gate_callee (f := 48) rfl ?_); refine goesL_ (some 14) rfl rfl Try.func48 (by kernel_rfl) rfl #[.agg #[.int .u32 a0_0, .int .u32 a0_1, .int .i64 a0_2], .agg #[.int .u32 a1_0, .int .u32 a1_1, .int .u32 a1_2, .int .u32 a1_3]] rfl (by (try simp only [List.map_toArray, List.map_cons, List.map_nil]); first | done | rfl | (simp only [List.length_drop, List.length_take]; rfl)) ?_; (with_reducible refine (cell_Touches.calls a0_0 a0_1 a0_2 a1_0 a1_1 a1_2 a1_3 true _ A3.out).mono ?_); rintro e w13 ⟨rfl, hb⟩; refine ⟨_, rfl, ?_⟩; have n0_ := Aside0.mk (blk_below (g := gb354) (o := .cells #[.int .u32 a0_0, .int .u32 a0_1, .int .i64 a0_2, .slice A0_3 l0_3.length c0_3, .slice A0_4 l0_4.length c0_4] 33 (0, 0)) (by (with_reducible repeat (first | refine blk_drewN ?_ _ | refine blk_drew ?_ | refine blk_alloc ?_ _)); exact BK354.out) hb); have n1_ := Aside0.mk (blk_below (g := gb355) (o := .cells #[.int .u32 a1_0, .int .u32 a1_1, .int .u32 a1_2, .int .u32 a1_3] 53 (0, 0)) (by (with_reducible repeat (first | refine blk_drewN ?_ _ | refine blk_drew ?_ | refine blk_alloc ?_ _)); exact BK355.out) hb); have n2_ := Aside0.mk (below_step (by repeat (first | (with_reducible first | exact HB.out | apply below_alloc | apply pw_below_drewN | apply below_drew1 | refine below_set ?_ GE354.out | refine below_set ?_ GE355.out) | exact HB.out)) hb); clear BK354; clear BK355; clear HB; have BK354 := n0_; have BK355 := n1_; have HB := n2_; clear n0_ n1_ n2_; (try clear hb); (try clear hb2); (try clear hk); (try clear hi); have hcz14_0 : w13.cell? ⟨gb354, 0, none⟩ = some (.int .u32 a0_0) := (blk_cell BK354.out 0).trans rfl; have hcz14_1 : w13.cell? ⟨gb354, 1, none⟩ = some (.int .u32 a0_1) := (blk_cell BK354.out 1).trans rfl; have hcz14_2 : w13.cell? ⟨gb354, 2, none⟩ = some (.int .i64 a0_2) := (blk_cell BK354.out 2).trans rfl; have hcz14_3 : w13.cell? ⟨gb354, 3, none⟩ = some (.slice A0_3 l0_3.length c0_3) := (blk_cell BK354.out 3).trans rfl; have hcz14_4 : w13.cell? ⟨gb354, 4, none⟩ = some (.slice A0_4 l0_4.length c0_4) := (blk_cell BK354.out 4).trans rfl; have hfz14_0 := blk_frozen BK354.out 0; have hfz14_1 := blk_frozen BK354.out 1; have hfz14_2 := blk_frozen BK354.out 2; have hfz14_3 := blk_frozen BK354.out 3; have hfz14_4 := blk_frozen BK354.out 4; have hcz15_0 : w13.cell? ⟨gb355, 0, none⟩ = some (.int .u32 a1_0) := (blk_cell BK355.out 0).trans rfl; have hcz15_1 : w13.cell? ⟨gb355, 1, none⟩ = some (.int .u32 a1_1) := (blk_cell BK355.out 1).trans rfl; have hcz15_2 : w13.cell? ⟨gb355, 2, none⟩ = some (.int .u32 a1_2) := (blk_cell BK355.out 2).trans rfl; have hcz15_3 : w13.cell? ⟨gb355, 3, none⟩ = some (.int .u32 a1_3) := (blk_cell BK355.out 3).trans rfl; have hfz15_0 := blk_frozen BK355.out 0; have hfz15_1 := blk_frozen BK355.out 1; have hfz15_2 := blk_frozen BK355.out 2; have hfz15_3 := blk_frozen BK355.out 3) | ((with_reducible refine gate_callee (f := 71) rfl ?_); refine goesL_ (some 20) rfl rfl Try.func71 (by kernel_rfl) rfl #[.agg #[.int .u32 a0_0, .int .u32 a0_1, .int .i64 a0_2], .agg #[.int .u32 a1_0, .int .u32 a1_1, .int .u32 a1_2, .int .u32 a1_3]] rfl (by (try simp only [List.map_toArray, List.map_cons, List.map_nil]); first | done | rfl | (simp only [List.length_drop, List.length_take]; rfl)) ?_; (with_reducible refine (cell_Within.calls a0_0 a0_1 a0_2 a1_0 a1_1 a1_2 a1_3 true _ A5.out).mono ?_); rintro e w16 ⟨rfl, hb⟩; refine ⟨_, rfl, ?_⟩; have n0_ := Aside0.mk (blk_below (g := gb354) (o := .cells #[.int .u32 a0_0, .int .u32 a0_1, .int .i64 a0_2, .slice A0_3 l0_3.length c0_3, .slice A0_4 l0_4.length c0_4] 33 (0, 0)) (by (with_reducible repeat (first | refine blk_drewN ?_ _ | refine blk_drew ?_ | refine blk_alloc ?_ _)); exact BK354.out) hb); have n1_ := Aside0.mk (blk_below (g := gb355) (o := .cells #[.int .u32 a1_0, .int .u32 a1_1, .int .u32 a1_2, .int .u32 a1_3] 53 (0, 0)) (by (with_reducible repeat (first | refine blk_drewN ?_ _ | refine blk_drew ?_ | refine blk_alloc ?_ _)); exact BK355.out) hb); have n2_ := Aside0.mk (below_step (by repeat (first | (with_reducible first | exact HB.out | apply below_alloc | apply pw_below_drewN | apply below_drew1 | refine below_set ?_ GE354.out | refine below_set ?_ GE355.out) | exact HB.out)) hb); clear BK354; clear BK355; clear HB; have BK354 := n0_; have BK355 := n1_; have HB := n2_; clear n0_ n1_ n2_; (try clear hb); (try clear hb2); (try clear hk); (try clear hi); have hcz17_0 : w16.cell? ⟨gb354, 0, none⟩ = some (.int .u32 a0_0) := (blk_cell BK354.out 0).trans rfl; have hcz17_1 : w16.cell? ⟨gb354, 1, none⟩ = some (.int .u32 a0_1) := (blk_cell BK354.out 1).trans rfl; have hcz17_2 : w16.cell? ⟨gb354, 2, none⟩ = some (.int .i64 a0_2) := (blk_cell BK354.out 2).trans rfl; have hcz17_3 : w16.cell? ⟨gb354, 3, none⟩ = some (.slice A0_3 l0_3.length c0_3) := (blk_cell BK354.out 3).trans rfl; have hcz17_4 : w16.cell? ⟨gb354, 4, none⟩ = some (.slice A0_4 l0_4.length c0_4) := (blk_cell BK354.out 4).trans rfl; have hfz17_0 := blk_frozen BK354.out 0; have hfz17_1 := blk_frozen BK354.out 1; have hfz17_2 := blk_frozen BK354.out 2; have hfz17_3 := blk_frozen BK354.out 3; have hfz17_4 := blk_frozen BK354.out 4) | ((with_reducible refine gate_callee (f := 23) rfl ?_); refine goesL_ (some 22) rfl rfl Try.func23 (by kernel_rfl) rfl #[.agg #[.int .u32 a0_0, .int .u32 a0_1, .int .i64 a0_2, .slice A0_3 l0_3.length c0_3, .slice A0_4 l0_4.length c0_4]] rfl (by (try simp only [List.map_toArray, List.map_cons, List.map_nil]); first | done | rfl | (simp only [List.length_drop, List.length_take]; rfl)) ?_; (with_reducible refine (quad_Size.calls k a0_0 a0_1 a0_2 _ _ l0_3 _ _ l0_4 t358 _ ?side1 ?side2 ?side3 ?side4 A7.out).mono ?_); (case side1 => repeat (first | exact (Kd.C_below HR0_3.out HB.out) | (with_reducible refine Kd.C_alloc ?_ _) | (with_reducible refine Kd.C_drewN ?_ _) | (with_reducible refine Kd.C_drew ?_))); (case side2 => exact HC0_3.out); (case side3 => repeat (first | exact (Kd.C_below HR0_4.out HB.out) | (with_reducible refine Kd.C_alloc ?_ _) | (with_reducible refine Kd.C_drewN ?_ _) | (with_reducible refine Kd.C_drew ?_))); (case side4 => exact HC0_4.out); rintro e w18 ⟨rfl, hb⟩; refine ⟨_, rfl, ?_⟩; have n0_ := Aside0.mk (blk_below (g := gb354) (o := .cells #[.int .u32 a0_0, .int .u32 a0_1, .int .i64 a0_2, .slice A0_3 l0_3.length c0_3, .slice A0_4 l0_4.length c0_4] 33 (0, 0)) (by (with_reducible repeat (first | refine blk_drewN ?_ _ | refine blk_drew ?_ | refine blk_alloc ?_ _)); exact BK354.out) hb); have n1_ := Aside0.mk (blk_below (g := gb355) (o := .cells #[.int .u32 a1_0, .int .u32 a1_1, .int .u32 a1_2, .int .u32 a1_3] 53 (0, 0)) (by (with_reducible repeat (first | refine blk_drewN ?_ _ | refine blk_drew ?_ | refine blk_alloc ?_ _)); exact BK355.out) hb); have n2_ := Aside0.mk (below_step (by repeat (first | (with_reducible first | exact HB.out | apply below_alloc | apply pw_below_drewN | apply below_drew1 | refine below_set ?_ GE354.out | refine below_set ?_ GE355.out) | exact HB.out)) hb); clear BK354; clear BK355; clear HB; have BK354 := n0_; have BK355 := n1_; have HB := n2_; clear n0_ n1_ n2_; (try clear hb); (try clear hb2); (try clear hk); (try clear hi)))
      go_ret
      exact ⟨by first | rfl | (simp [errW_none, errW_some] <;> rfl) | (simp [*, errW_none, errW_some] <;> rfl), by repeat (first | (with_reducible first | exact HB.out | apply below_alloc | apply pw_below_drewN | apply below_drew1 | refine below_set ?_ GE354.out | refine below_set ?_ GE355.out) | exact HB.out)⟩
    · replace c6 := Bool.eq_false_iff.mpr c6
      subst c6
      have H1 : (quad_count.l0 k 0 l0_3 (l0_3.length : Int) 0 a0_0 a0_1 a0_2 l0_3 l0_4 a1_0 a1_1 a1_2 a1_3) = some r := by rw [if_neg (show ¬ (false = true) by decide)] at H; exact H
      clear H
      have H := H1
      clear H1
      have H' := Aside0.mk H
      clear H
      go_enter Try.func53, Try.ntmps53
      go_wp2_with (first | ((with_reducible refine gate_dst (N := 2) rfl ?_); refine box_event ?hg (N := 2) ?hd (cs := #[.int .u32 a0_0, .int .u32 a0_1, .int .i64 a0_2, .slice A0_3 l0_3.length c0_3, .slice A0_4 l0_4.length c0_4]) (t := 33) ?hr ?_; (case hd => rfl); (case hg => rfl); (case hr => first | (go_simp; done) | (go_simp; rfl)); intro gb354 hg w19 hbox hb; have n0_ := Aside0.mk (below_step (by repeat (first | (with_reducible first | exact HB.out | apply below_alloc | apply pw_below_drewN | apply below_drew1) | exact HB.out)) hb); have n1_ := Aside0.mk (hbox); have n2_ := Aside0.mk ((by rw [hg]; exact (below_size (by repeat (first | (with_reducible first | exact HB.out | apply below_alloc | apply pw_below_drewN | apply below_drew1) | exact HB.out))) : w.heap.size ≤ gb354)); have n3_ := Aside0.mk ((by rw [hg]; exact (below_size (by repeat (first | (with_reducible first | exact HB.out | apply below_alloc | apply pw_below_drewN | apply below_drew1) | exact HB.out))) : w.heap.size ≤ gb354)); clear HB; have HB := n0_; have BK354 := n1_; have GW354 := n2_; have GE354 := n3_; clear n0_ n1_ n2_ n3_; clear hb hbox hg) | ((with_reducible refine gate_dst (N := 3) rfl ?_); refine box_event ?hg (N := 3) ?hd (cs := #[.int .u32 a1_0, .int .u32 a1_1, .int .u32 a1_2, .int .u32 a1_3]) (t := 53) ?hr ?_; (case hd => rfl); (case hg => rfl); (case hr => first | (go_simp; done) | (go_simp; rfl)); intro gb355 hg w20 hbox hb; have n0_ := Aside0.mk (blk_below (g := gb354) (o := .cells #[.int .u32 a0_0, .int .u32 a0_1, .int .i64 a0_2, .slice A0_3 l0_3.length c0_3, .slice A0_4 l0_4.length c0_4] 33 (0, 0)) (by (with_reducible repeat (first | refine blk_drewN ?_ _ | refine blk_drew ?_ | refine blk_alloc ?_ _)); exact BK354.out) hb); have n1_ := Aside0.mk (below_step (by repeat (first | (with_reducible first | exact HB.out | apply below_alloc | apply pw_below_drewN | apply below_drew1 | refine below_set ?_ GE354.out) | exact HB.out)) hb); have n2_ := Aside0.mk (hbox); have n3_ := Aside0.mk ((by rw [hg]; exact (below_size (by repeat (first | (with_reducible first | exact HB.out | apply below_alloc | apply pw_below_drewN | apply below_drew1 | refine below_set ?_ GE354.out) | exact HB.out))) : w.heap.size ≤ gb355)); have n4_ := Aside0.mk ((by rw [hg]; exact (below_size (by repeat (first | (with_reducible first | exact HB.out | apply below_alloc | apply pw_below_drewN | apply below_drew1 | refine below_set ?_ GE354.out) | exact HB.out))) : w.heap.size ≤ gb355)); have n5_ := Aside0.mk ((by rw [hg]; exact Nat.ne_of_lt (blk_lt (g := gb354) (o := .cells #[.int .u32 a0_0, .int .u32 a0_1, .int .i64 a0_2, .slice A0_3 l0_3.length c0_3, .slice A0_4 l0_4.length c0_4] 33 (0, 0)) (by (with_reducible repeat (first | refine blk_drewN ?_ _ | refine blk_drew ?_ | refine blk_alloc ?_ _)); exact BK354.out)) : gb354 ≠ gb355)); have n6_ := Aside0.mk ((by rw [hg]; exact Nat.ne_of_gt (blk_lt (g := gb354) (o := .cells #[.int .u32 a0_0, .int .u32 a0_1, .int .i64 a0_2, .slice A0_3 l0_3.length c0_3, .slice A0_4 l0_4.length c0_4] 33 (0, 0)) (by (with_reducible repeat (first | refine blk_drewN ?_ _ | refine blk_drew ?_ | refine blk_alloc ?_ _)); exact BK354.out)) : gb355 ≠ gb354)); clear BK354; clear HB; have BK354 := n0_; have HB := n1_; have BK355 := n2_; have GW355 := n3_; have GE355 := n4_; have NB354_355 := n5_; have NB355_354 := n6_; clear n0_ n1_ n2_ n3_ n4_ n5_ n6_; clear hb hbox hg; have hnb21 := NB354_355.out; have hnc21 := NB355_354.out; have hcz22_0 : w20.cell? ⟨gb354, 0, none⟩ = some (.int .u32 a0_0) := (blk_cell BK354.out 0).trans rfl; have hcz22_1 : w20.cell? ⟨gb354, 1, none⟩ = some (.int .u32 a0_1) := (blk_cell BK354.out 1).trans rfl; have hcz22_2 : w20.cell? ⟨gb354, 2, none⟩ = some (.int .i64 a0_2) := (blk_cell BK354.out 2).trans rfl; have hcz22_3 : w20.cell? ⟨gb354, 3, none⟩ = some (.slice A0_3 l0_3.length c0_3) := (blk_cell BK354.out 3).trans rfl; have hcz22_4 : w20.cell? ⟨gb354, 4, none⟩ = some (.slice A0_4 l0_4.length c0_4) := (blk_cell BK354.out 4).trans rfl; have hfz22_0 := blk_frozen BK354.out 0; have hfz22_1 := blk_frozen BK354.out 1; have hfz22_2 := blk_frozen BK354.out 2; have hfz22_3 := blk_frozen BK354.out 3; have hfz22_4 := blk_frozen BK354.out 4; have hcz23_0 : w20.cell? ⟨gb355, 0, none⟩ = some (.int .u32 a1_0) := (blk_cell BK355.out 0).trans rfl; have hcz23_1 : w20.cell? ⟨gb355, 1, none⟩ = some (.int .u32 a1_1) := (blk_cell BK355.out 1).trans rfl; have hcz23_2 : w20.cell? ⟨gb355, 2, none⟩ = some (.int .u32 a1_2) := (blk_cell BK355.out 2).trans rfl; have hcz23_3 : w20.cell? ⟨gb355, 3, none⟩ = some (.int .u32 a1_3) := (blk_cell BK355.out 3).trans rfl; have hfz23_0 := blk_frozen BK355.out 0; have hfz23_1 := blk_frozen BK355.out 1; have hfz23_2 := blk_frozen BK355.out 2; have hfz23_3 := blk_frozen BK355.out 3) | ((with_reducible refine gate_callee (f := 48) rfl ?_); refine goesL_ (some 14) rfl rfl Try.func48 (by kernel_rfl) rfl #[.agg #[.int .u32 a0_0, .int .u32 a0_1, .int .i64 a0_2], .agg #[.int .u32 a1_0, .int .u32 a1_1, .int .u32 a1_2, .int .u32 a1_3]] rfl (by (try simp only [List.map_toArray, List.map_cons, List.map_nil]); first | done | rfl | (simp only [List.length_drop, List.length_take]; rfl)) ?_; (with_reducible refine (cell_Touches.calls a0_0 a0_1 a0_2 a1_0 a1_1 a1_2 a1_3 true _ A3.out).mono ?_); rintro e w24 ⟨rfl, hb⟩; refine ⟨_, rfl, ?_⟩; have n0_ := Aside0.mk (blk_below (g := gb354) (o := .cells #[.int .u32 a0_0, .int .u32 a0_1, .int .i64 a0_2, .slice A0_3 l0_3.length c0_3, .slice A0_4 l0_4.length c0_4] 33 (0, 0)) (by (with_reducible repeat (first | refine blk_drewN ?_ _ | refine blk_drew ?_ | refine blk_alloc ?_ _)); exact BK354.out) hb); have n1_ := Aside0.mk (blk_below (g := gb355) (o := .cells #[.int .u32 a1_0, .int .u32 a1_1, .int .u32 a1_2, .int .u32 a1_3] 53 (0, 0)) (by (with_reducible repeat (first | refine blk_drewN ?_ _ | refine blk_drew ?_ | refine blk_alloc ?_ _)); exact BK355.out) hb); have n2_ := Aside0.mk (below_step (by repeat (first | (with_reducible first | exact HB.out | apply below_alloc | apply pw_below_drewN | apply below_drew1 | refine below_set ?_ GE354.out | refine below_set ?_ GE355.out) | exact HB.out)) hb); clear BK354; clear BK355; clear HB; have BK354 := n0_; have BK355 := n1_; have HB := n2_; clear n0_ n1_ n2_; (try clear hb); (try clear hb2); (try clear hk); (try clear hi); have hcz25_0 : w24.cell? ⟨gb354, 0, none⟩ = some (.int .u32 a0_0) := (blk_cell BK354.out 0).trans rfl; have hcz25_1 : w24.cell? ⟨gb354, 1, none⟩ = some (.int .u32 a0_1) := (blk_cell BK354.out 1).trans rfl; have hcz25_2 : w24.cell? ⟨gb354, 2, none⟩ = some (.int .i64 a0_2) := (blk_cell BK354.out 2).trans rfl; have hcz25_3 : w24.cell? ⟨gb354, 3, none⟩ = some (.slice A0_3 l0_3.length c0_3) := (blk_cell BK354.out 3).trans rfl; have hcz25_4 : w24.cell? ⟨gb354, 4, none⟩ = some (.slice A0_4 l0_4.length c0_4) := (blk_cell BK354.out 4).trans rfl; have hfz25_0 := blk_frozen BK354.out 0; have hfz25_1 := blk_frozen BK354.out 1; have hfz25_2 := blk_frozen BK354.out 2; have hfz25_3 := blk_frozen BK354.out 3; have hfz25_4 := blk_frozen BK354.out 4; have hcz26_0 : w24.cell? ⟨gb355, 0, none⟩ = some (.int .u32 a1_0) := (blk_cell BK355.out 0).trans rfl; have hcz26_1 : w24.cell? ⟨gb355, 1, none⟩ = some (.int .u32 a1_1) := (blk_cell BK355.out 1).trans rfl; have hcz26_2 : w24.cell? ⟨gb355, 2, none⟩ = some (.int .u32 a1_2) := (blk_cell BK355.out 2).trans rfl; have hcz26_3 : w24.cell? ⟨gb355, 3, none⟩ = some (.int .u32 a1_3) := (blk_cell BK355.out 3).trans rfl; have hfz26_0 := blk_frozen BK355.out 0; have hfz26_1 := blk_frozen BK355.out 1; have hfz26_2 := blk_frozen BK355.out 2; have hfz26_3 := blk_frozen BK355.out 3) | ((with_reducible refine gate_callee (f := 71) rfl ?_); refine goesL_ (some 20) rfl rfl Try.func71 (by kernel_rfl) rfl #[.agg #[.int .u32 a0_0, .int .u32 a0_1, .int .i64 a0_2], .agg #[.int .u32 a1_0, .int .u32 a1_1, .int .u32 a1_2, .int .u32 a1_3]] rfl (by (try simp only [List.map_toArray, List.map_cons, List.map_nil]); first | done | rfl | (simp only [List.length_drop, List.length_take]; rfl)) ?_; (with_reducible refine (cell_Within.calls a0_0 a0_1 a0_2 a1_0 a1_1 a1_2 a1_3 false _ A5.out).mono ?_); rintro e w27 ⟨rfl, hb⟩; refine ⟨_, rfl, ?_⟩; have n0_ := Aside0.mk (blk_below (g := gb354) (o := .cells #[.int .u32 a0_0, .int .u32 a0_1, .int .i64 a0_2, .slice A0_3 l0_3.length c0_3, .slice A0_4 l0_4.length c0_4] 33 (0, 0)) (by (with_reducible repeat (first | refine blk_drewN ?_ _ | refine blk_drew ?_ | refine blk_alloc ?_ _)); exact BK354.out) hb); have n1_ := Aside0.mk (blk_below (g := gb355) (o := .cells #[.int .u32 a1_0, .int .u32 a1_1, .int .u32 a1_2, .int .u32 a1_3] 53 (0, 0)) (by (with_reducible repeat (first | refine blk_drewN ?_ _ | refine blk_drew ?_ | refine blk_alloc ?_ _)); exact BK355.out) hb); have n2_ := Aside0.mk (below_step (by repeat (first | (with_reducible first | exact HB.out | apply below_alloc | apply pw_below_drewN | apply below_drew1 | refine below_set ?_ GE354.out | refine below_set ?_ GE355.out) | exact HB.out)) hb); clear BK354; clear BK355; clear HB; have BK354 := n0_; have BK355 := n1_; have HB := n2_; clear n0_ n1_ n2_; (try clear hb); (try clear hb2); (try clear hk); (try clear hi); have hcz28_0 : w27.cell? ⟨gb354, 0, none⟩ = some (.int .u32 a0_0) := (blk_cell BK354.out 0).trans rfl; have hcz28_1 : w27.cell? ⟨gb354, 1, none⟩ = some (.int .u32 a0_1) := (blk_cell BK354.out 1).trans rfl; have hcz28_2 : w27.cell? ⟨gb354, 2, none⟩ = some (.int .i64 a0_2) := (blk_cell BK354.out 2).trans rfl; have hcz28_3 : w27.cell? ⟨gb354, 3, none⟩ = some (.slice A0_3 l0_3.length c0_3) := (blk_cell BK354.out 3).trans rfl; have hcz28_4 : w27.cell? ⟨gb354, 4, none⟩ = some (.slice A0_4 l0_4.length c0_4) := (blk_cell BK354.out 4).trans rfl; have hfz28_0 := blk_frozen BK354.out 0; have hfz28_1 := blk_frozen BK354.out 1; have hfz28_2 := blk_frozen BK354.out 2; have hfz28_3 := blk_frozen BK354.out 3; have hfz28_4 := blk_frozen BK354.out 4))
      go_loopg [5, 26] k (fun kq v5 v26 w' => ∃ (x5_1 : Int) (x26_1 : Int), v5 = .int .i64 x5_1 ∧ v26 = .int .i64 x26_1 ∧ Aside0 (quad_count.l0 kq x5_1 l0_3 (l0_3.length : Int) x26_1 a0_0 a0_1 a0_2 l0_3 l0_4 a1_0 a1_1 a1_2 a1_3 = some r) ∧ Aside0 (kq ≤ k) ∧ Aside0 (w'.heap[gb354]? = some (.cells #[.int .u32 a0_0, .int .u32 a0_1, .int .i64 a0_2, (.slice A0_3 l0_3.length c0_3), (.slice A0_4 l0_4.length c0_4)] 33 (0, 0))) ∧ Aside0 (w'.heap[gb355]? = some (.cells #[.int .u32 a1_0, .int .u32 a1_1, .int .u32 a1_2, .int .u32 a1_3] 53 (0, 0))) ∧ Aside0 (Below w.heap.size w w'))
      case atStart => exact ⟨(0), (0), (by first | rfl | (simp; done) | (simp [*]; done)), (by first | rfl | (simp; done) | (simp [*]; done)), H', ⟨Nat.le_refl _⟩, ⟨by (with_reducible repeat (first | refine blk_drewN ?_ _ | refine blk_drew ?_ | refine blk_alloc ?_ _)); exact BK354.out⟩, ⟨by (with_reducible repeat (first | refine blk_drewN ?_ _ | refine blk_drew ?_ | refine blk_alloc ?_ _)); exact BK355.out⟩, ⟨by repeat (first | (with_reducible first | exact HB.out | apply below_alloc | apply pw_below_drewN | apply below_drew1 | refine below_set ?_ GE354.out | refine below_set ?_ GE355.out) | exact HB.out)⟩⟩
      case round =>
        clear H'
        try clear c1
        try clear c2
        try clear p2
        try clear c4
        try clear c5
        try clear c6
        try clear c7
        try clear c10
        try clear c21
        try clear c23
        try clear hcz11_0
        try clear hcz11_1
        try clear hcz11_2
        try clear hcz11_3
        try clear hcz11_4
        try clear hcz12_0
        try clear hcz12_1
        try clear hcz12_2
        try clear hcz12_3
        try clear hcz14_0
        try clear hcz14_1
        try clear hcz14_2
        try clear hcz14_3
        try clear hcz14_4
        try clear hcz15_0
        try clear hcz15_1
        try clear hcz15_2
        try clear hcz15_3
        try clear hcz17_0
        try clear hcz17_1
        try clear hcz17_2
        try clear hcz17_3
        try clear hcz17_4
        try clear hcz22_0
        try clear hcz22_1
        try clear hcz22_2
        try clear hcz22_3
        try clear hcz22_4
        try clear hcz23_0
        try clear hcz23_1
        try clear hcz23_2
        try clear hcz23_3
        try clear hcz25_0
        try clear hcz25_1
        try clear hcz25_2
        try clear hcz25_3
        try clear hcz25_4
        try clear hcz26_0
        try clear hcz26_1
        try clear hcz26_2
        try clear hcz26_3
        try clear hcz28_0
        try clear hcz28_1
        try clear hcz28_2
        try clear hcz28_3
        try clear hcz28_4
        try clear hfz11_0
        try clear hfz11_1
        try clear hfz11_2
        try clear hfz11_3
        try clear hfz11_4
        try clear hfz12_0
        try clear hfz12_1
        try clear hfz12_2
        try clear hfz12_3
        try clear hfz14_0
        try clear hfz14_1
        try clear hfz14_2
        try clear hfz14_3
        try clear hfz14_4
        try clear hfz15_0
        try clear hfz15_1
        try clear hfz15_2
        try clear hfz15_3
        try clear hfz17_0
        try clear hfz17_1
        try clear hfz17_2
        try clear hfz17_3
        try clear hfz17_4
        try clear hfz22_0
        try clear hfz22_1
        try clear hfz22_2
        try clear hfz22_3
        try clear hfz22_4
        try clear hfz23_0
        try clear hfz23_1
        try clear hfz23_2
        try clear hfz23_3
        try clear hfz25_0
        try clear hfz25_1
        try clear hfz25_2
        try clear hfz25_3
        try clear hfz25_4
        try clear hfz26_0
        try clear hfz26_1
        try clear hfz26_2
        try clear hfz26_3
        try clear hfz28_0
        try clear hfz28_1
        try clear hfz28_2
        try clear hfz28_3
        try clear hfz28_4
        obtain ⟨x5_1, x26_1, rfl, rfl, HA, HK1, BK354, BK355, HB⟩ := hrel
        cases gk with
        | zero => exact absurd HA.out (by simp [quad_count.l0])
        | succ k1 =>
          have H := HA.out
          clear HA
          simp only [quad_count.l0] at H
          by_cases c29 : x26_1 < (l0_3.length : Int)
          · rw [if_pos c29] at H
            have c29b0 : decide (x26_1 < (l0_3.length : Int)) = true := decide_eq_true c29
            clear c29
            by_cases c30 : 0 ≤ x26_1
            · rw [if_pos c30] at H
              have c30b0 : decide (0 ≤ x26_1) = true := decide_eq_true c30
              clear c30
              by_cases c31 : x26_1 < (l0_3.length : Int)
              · rw [if_pos c31] at H
                have c31b0 : decide (x26_1 < (l0_3.length : Int)) = true := decide_eq_true c31
                clear c31
                replace H := Option.bind_eq_some_iff.mp H
                obtain ⟨t361, A320, H⟩ := H
                replace H : (if t361 = true then (quad_count.l0 k1 (wrap64 (x5_1 + 1)) l0_3 (l0_3.length : Int) (wrap64 (x26_1 + 1)) a0_0 a0_1 a0_2 l0_3 l0_4 a1_0 a1_1 a1_2 a1_3) else (quad_count.l0 k1 x5_1 l0_3 (l0_3.length : Int) (wrap64 (x26_1 + 1)) a0_0 a0_1 a0_2 l0_3 l0_4 a1_0 a1_1 a1_2 a1_3)) = some r := H
                have A32 := Aside0.mk A320
                clear A320
                by_cases c33 : t361 = true
                · subst c33
                  have H1 : (quad_count.l0 k1 (wrap64 (x5_1 + 1)) l0_3 (l0_3.length : Int) (wrap64 (x26_1 + 1)) a0_0 a0_1 a0_2 l0_3 l0_4 a1_0 a1_1 a1_2 a1_3) = some r := by rw [if_pos rfl] at H; exact H
                  clear H
                  have H := H1
                  clear H1
                  have H' := Aside0.mk H
                  clear H
                  have p359 : 0 ≤ (x26_1 : Int) := of_decide_eq_true (by first | (with_reducible assumption) | assumption)
                  have q359 : x26_1 < (l0_3.length : Int) := of_decide_eq_true (by first | (with_reducible assumption) | assumption)
                  obtain ⟨ad359, e359, hx359_0, hx359_1, hx359_2, hx359_3⟩ := at_T26 HR0_3.out x26_1 p359 q359
                  cases e359
                  replace hx359_0 := (HB.out.cell (World.block_lt_of_cell? w _ hx359_0)).trans hx359_0
                  replace hx359_1 := (HB.out.cell (World.block_lt_of_cell? w _ hx359_1)).trans hx359_1
                  replace hx359_2 := (HB.out.cell (World.block_lt_of_cell? w _ hx359_2)).trans hx359_2
                  replace hx359_3 := (HB.out.cell (World.block_lt_of_cell? w _ hx359_3)).trans hx359_3
                  replace p359 := eq_true p359
                  replace q359 := eq_true q359
                  go_wp2_with (first | ((with_reducible refine gate_dst (N := 7) rfl ?_); refine box_event ?hg (N := 7) ?hd (cs := #[.int .u64 0, .int .u32 0, .int .u32 0, .string (⟨#[]⟩ : ByteArray)]) (t := 26) ?hr ?_; (case hd => rfl); (case hg => rfl); (case hr => first | (go_simp; done) | (go_simp; rfl)); intro gb360 hg w34 hbox hb; have n0_ := Aside0.mk (blk_below (g := gb354) (o := .cells #[.int .u32 a0_0, .int .u32 a0_1, .int .i64 a0_2, .slice (some ad359) l0_3.length c0_3, .slice A0_4 l0_4.length c0_4] 33 (0, 0)) (by (with_reducible repeat (first | refine blk_drewN ?_ _ | refine blk_drew ?_ | refine blk_alloc ?_ _)); exact BK354.out) hb); have n1_ := Aside0.mk (blk_below (g := gb355) (o := .cells #[.int .u32 a1_0, .int .u32 a1_1, .int .u32 a1_2, .int .u32 a1_3] 53 (0, 0)) (by (with_reducible repeat (first | refine blk_drewN ?_ _ | refine blk_drew ?_ | refine blk_alloc ?_ _)); exact BK355.out) hb); have n2_ := Aside0.mk (below_step (by repeat (first | (with_reducible first | exact HB.out | apply below_alloc | apply pw_below_drewN | apply below_drew1 | refine below_set ?_ GE354.out | refine below_set ?_ GE355.out) | exact HB.out)) hb); have n3_ := Aside0.mk (hbox); have n4_ := Aside0.mk ((by rw [hg]; exact (below_size (by repeat (first | (with_reducible first | exact HB.out | apply below_alloc | apply pw_below_drewN | apply below_drew1 | refine below_set ?_ GE354.out | refine below_set ?_ GE355.out) | exact HB.out))) : w.heap.size ≤ gb360)); have n5_ := Aside0.mk ((by rw [hg]; exact (below_size (by repeat (first | (with_reducible first | exact HB.out | apply below_alloc | apply pw_below_drewN | apply below_drew1 | refine below_set ?_ GE354.out | refine below_set ?_ GE355.out) | exact HB.out))) : w.heap.size ≤ gb360)); have n6_ := Aside0.mk ((by rw [hg]; exact Nat.ne_of_lt (blk_lt (g := gb354) (o := .cells #[.int .u32 a0_0, .int .u32 a0_1, .int .i64 a0_2, .slice (some ad359) l0_3.length c0_3, .slice A0_4 l0_4.length c0_4] 33 (0, 0)) (by (with_reducible repeat (first | refine blk_drewN ?_ _ | refine blk_drew ?_ | refine blk_alloc ?_ _)); exact BK354.out)) : gb354 ≠ gb360)); have n7_ := Aside0.mk ((by rw [hg]; exact Nat.ne_of_gt (blk_lt (g := gb354) (o := .cells #[.int .u32 a0_0, .int .u32 a0_1, .int .i64 a0_2, .slice (some ad359) l0_3.length c0_3, .slice A0_4 l0_4.length c0_4] 33 (0, 0)) (by (with_reducible repeat (first | refine blk_drewN ?_ _ | refine blk_drew ?_ | refine blk_alloc ?_ _)); exact BK354.out)) : gb360 ≠ gb354)); have n8_ := Aside0.mk ((by rw [hg]; exact Nat.ne_of_lt (blk_lt (g := gb355) (o := .cells #[.int .u32 a1_0, .int .u32 a1_1, .int .u32 a1_2, .int .u32 a1_3] 53 (0, 0)) (by (with_reducible repeat (first | refine blk_drewN ?_ _ | refine blk_drew ?_ | refine blk_alloc ?_ _)); exact BK355.out)) : gb355 ≠ gb360)); have n9_ := Aside0.mk ((by rw [hg]; exact Nat.ne_of_gt (blk_lt (g := gb355) (o := .cells #[.int .u32 a1_0, .int .u32 a1_1, .int .u32 a1_2, .int .u32 a1_3] 53 (0, 0)) (by (with_reducible repeat (first | refine blk_drewN ?_ _ | refine blk_drew ?_ | refine blk_alloc ?_ _)); exact BK355.out)) : gb360 ≠ gb355)); clear BK354; clear BK355; clear HB; have BK354 := n0_; have BK355 := n1_; have HB := n2_; have BK360 := n3_; have GW360 := n4_; have GE360 := n5_; have NB354_360 := n6_; have NB360_354 := n7_; have NB355_360 := n8_; have NB360_355 := n9_; clear n0_ n1_ n2_ n3_ n4_ n5_ n6_ n7_ n8_ n9_; clear hb hbox hg; have hnb35 := NB360_354.out; have hnc35 := NB354_360.out; have hnb36 := NB360_355.out; have hnc36 := NB355_360.out; have hcz37_0 : w34.cell? ⟨gb360, 0, none⟩ = some (.int .u64 0) := (blk_cell BK360.out 0).trans rfl; have hcz37_1 : w34.cell? ⟨gb360, 1, none⟩ = some (.int .u32 0) := (blk_cell BK360.out 1).trans rfl; have hcz37_2 : w34.cell? ⟨gb360, 2, none⟩ = some (.int .u32 0) := (blk_cell BK360.out 2).trans rfl; have hcz37_3 : w34.cell? ⟨gb360, 3, none⟩ = some (.string (⟨#[]⟩ : ByteArray)) := (blk_cell BK360.out 3).trans rfl; have hfz37_0 := blk_frozen BK360.out 0; have hfz37_1 := blk_frozen BK360.out 1; have hfz37_2 := blk_frozen BK360.out 2; have hfz37_3 := blk_frozen BK360.out 3; have hnb38 := NB355_354.out; have hnc38 := NB354_355.out; have hcz39_0 : w34.cell? ⟨gb355, 0, none⟩ = some (.int .u32 a1_0) := (blk_cell BK355.out 0).trans rfl; have hcz39_1 : w34.cell? ⟨gb355, 1, none⟩ = some (.int .u32 a1_1) := (blk_cell BK355.out 1).trans rfl; have hcz39_2 : w34.cell? ⟨gb355, 2, none⟩ = some (.int .u32 a1_2) := (blk_cell BK355.out 2).trans rfl; have hcz39_3 : w34.cell? ⟨gb355, 3, none⟩ = some (.int .u32 a1_3) := (blk_cell BK355.out 3).trans rfl; have hfz39_0 := blk_frozen BK355.out 0; have hfz39_1 := blk_frozen BK355.out 1; have hfz39_2 := blk_frozen BK355.out 2; have hfz39_3 := blk_frozen BK355.out 3) | ((with_reducible refine gate_callee (f := 50) rfl ?_); refine goesL_ (some 35) rfl rfl Try.func50 (by kernel_rfl) rfl #[.agg #[.int .u32 a1_0, .int .u32 a1_1, .int .u32 a1_2, .int .u32 a1_3], .int .u32 ((rd_T26 l0_3 x26_1).f1), .int .u32 ((rd_T26 l0_3 x26_1).f2)] rfl (by (try simp only [List.map_toArray, List.map_cons, List.map_nil]); first | done | rfl | (simp only [List.length_drop, List.length_take]; rfl)) ?_; (with_reducible refine (cell_In.calls a1_0 a1_1 a1_2 a1_3 ((rd_T26 l0_3 x26_1).f1) ((rd_T26 l0_3 x26_1).f2) true _ A32.out).mono ?_); rintro e w40 ⟨rfl, hb⟩; refine ⟨_, rfl, ?_⟩; have n0_ := Aside0.mk (blk_below (g := gb354) (o := .cells #[.int .u32 a0_0, .int .u32 a0_1, .int .i64 a0_2, .slice (some ad359) l0_3.length c0_3, .slice A0_4 l0_4.length c0_4] 33 (0, 0)) (by (with_reducible repeat (first | refine blk_drewN ?_ _ | refine blk_drew ?_ | refine blk_alloc ?_ _)); refine blk_far ?_ NB354_360.out _; (with_reducible repeat (first | refine blk_drewN ?_ _ | refine blk_drew ?_ | refine blk_alloc ?_ _)); refine blk_far ?_ NB354_360.out _; (with_reducible repeat (first | refine blk_drewN ?_ _ | refine blk_drew ?_ | refine blk_alloc ?_ _)); refine blk_far ?_ NB354_360.out _; (with_reducible repeat (first | refine blk_drewN ?_ _ | refine blk_drew ?_ | refine blk_alloc ?_ _)); refine blk_far ?_ NB354_360.out _; (with_reducible repeat (first | refine blk_drewN ?_ _ | refine blk_drew ?_ | refine blk_alloc ?_ _)); exact BK354.out) hb); have n1_ := Aside0.mk (blk_below (g := gb355) (o := .cells #[.int .u32 a1_0, .int .u32 a1_1, .int .u32 a1_2, .int .u32 a1_3] 53 (0, 0)) (by (with_reducible repeat (first | refine blk_drewN ?_ _ | refine blk_drew ?_ | refine blk_alloc ?_ _)); refine blk_far ?_ NB355_360.out _; (with_reducible repeat (first | refine blk_drewN ?_ _ | refine blk_drew ?_ | refine blk_alloc ?_ _)); refine blk_far ?_ NB355_360.out _; (with_reducible repeat (first | refine blk_drewN ?_ _ | refine blk_drew ?_ | refine blk_alloc ?_ _)); refine blk_far ?_ NB355_360.out _; (with_reducible repeat (first | refine blk_drewN ?_ _ | refine blk_drew ?_ | refine blk_alloc ?_ _)); refine blk_far ?_ NB355_360.out _; (with_reducible repeat (first | refine blk_drewN ?_ _ | refine blk_drew ?_ | refine blk_alloc ?_ _)); exact BK355.out) hb); have n2_ := Aside0.mk (blk_below (g := gb360) (o := .cells #[.int .u64 ((rd_T26 l0_3 x26_1).f0), .int .u32 ((rd_T26 l0_3 x26_1).f1), .int .u32 ((rd_T26 l0_3 x26_1).f2), .string ((rd_T26 l0_3 x26_1).f3)] 26 (0, 0)) (by (with_reducible repeat (first | refine blk_drewN ?_ _ | refine blk_drew ?_ | refine blk_alloc ?_ _)); refine blk_put (cs := #[.int .u64 ((rd_T26 l0_3 x26_1).f0), .int .u32 ((rd_T26 l0_3 x26_1).f1), .int .u32 ((rd_T26 l0_3 x26_1).f2), .string (⟨#[]⟩ : ByteArray)]) ?_ 3 _ (by first | rfl | (simp; done)); (with_reducible repeat (first | refine blk_drewN ?_ _ | refine blk_drew ?_ | refine blk_alloc ?_ _)); refine blk_put (cs := #[.int .u64 ((rd_T26 l0_3 x26_1).f0), .int .u32 ((rd_T26 l0_3 x26_1).f1), .int .u32 0, .string (⟨#[]⟩ : ByteArray)]) ?_ 2 _ (by first | rfl | (simp; done)); (with_reducible repeat (first | refine blk_drewN ?_ _ | refine blk_drew ?_ | refine blk_alloc ?_ _)); refine blk_put (cs := #[.int .u64 ((rd_T26 l0_3 x26_1).f0), .int .u32 0, .int .u32 0, .string (⟨#[]⟩ : ByteArray)]) ?_ 1 _ (by first | rfl | (simp; done)); (with_reducible repeat (first | refine blk_drewN ?_ _ | refine blk_drew ?_ | refine blk_alloc ?_ _)); refine blk_put (cs := #[.int .u64 0, .int .u32 0, .int .u32 0, .string (⟨#[]⟩ : ByteArray)]) ?_ 0 _ (by first | rfl | (simp; done)); (with_reducible repeat (first | refine blk_drewN ?_ _ | refine blk_drew ?_ | refine blk_alloc ?_ _)); exact BK360.out) hb); have n3_ := Aside0.mk (below_step (by repeat (first | (with_reducible first | exact HB.out | apply below_alloc | apply pw_below_drewN | apply below_drew1 | refine below_set ?_ GE354.out | refine below_set ?_ GE355.out | refine below_set ?_ GE360.out) | exact HB.out)) hb); clear BK354; clear BK355; clear BK360; clear HB; have BK354 := n0_; have BK355 := n1_; have BK360 := n2_; have HB := n3_; clear n0_ n1_ n2_ n3_; (try clear hb); (try clear hb2); (try clear hk); (try clear hi)))
                  go_roundg k1
                  case measure => have := HK1.out; omega
                  case rel => exact ⟨(wrap64 (x5_1 + 1)), (wrap64 (x26_1 + 1)), (by first | rfl | (simp; done) | (simp [*]; done)), (by first | rfl | (simp; done) | (simp [*]; done)), H', ⟨by have := HK1.out; omega⟩, ⟨by (with_reducible repeat (first | refine blk_drewN ?_ _ | refine blk_drew ?_ | refine blk_alloc ?_ _)); exact BK354.out⟩, ⟨by (with_reducible repeat (first | refine blk_drewN ?_ _ | refine blk_drew ?_ | refine blk_alloc ?_ _)); exact BK355.out⟩, ⟨by repeat (first | (with_reducible first | exact HB.out | apply below_alloc | apply pw_below_drewN | apply below_drew1 | refine below_set ?_ GE354.out | refine below_set ?_ GE355.out | refine below_set ?_ GE360.out) | exact HB.out)⟩⟩
                · replace c33 := Bool.eq_false_iff.mpr c33
                  subst c33
                  have H1 : (quad_count.l0 k1 x5_1 l0_3 (l0_3.length : Int) (wrap64 (x26_1 + 1)) a0_0 a0_1 a0_2 l0_3 l0_4 a1_0 a1_1 a1_2 a1_3) = some r := by rw [if_neg (show ¬ (false = true) by decide)] at H; exact H
                  clear H
                  have H := H1
                  clear H1
                  have H' := Aside0.mk H
                  clear H
                  have p359 : 0 ≤ (x26_1 : Int) := of_decide_eq_true (by first | (with_reducible assumption) | assumption)
                  have q359 : x26_1 < (l0_3.length : Int) := of_decide_eq_true (by first | (with_reducible assumption) | assumption)
                  obtain ⟨ad359, e359, hx359_0, hx359_1, hx359_2, hx359_3⟩ := at_T26 HR0_3.out x26_1 p359 q359
                  cases e359
                  replace hx359_0 := (HB.out.cell (World.block_lt_of_cell? w _ hx359_0)).trans hx359_0
                  replace hx359_1 := (HB.out.cell (World.block_lt_of_cell? w _ hx359_1)).trans hx359_1
                  replace hx359_2 := (HB.out.cell (World.block_lt_of_cell? w _ hx359_2)).trans hx359_2
                  replace hx359_3 := (HB.out.cell (World.block_lt_of_cell? w _ hx359_3)).trans hx359_3
                  replace p359 := eq_true p359
                  replace q359 := eq_true q359
                  go_wp2_with (first | ((with_reducible refine gate_dst (N := 7) rfl ?_); refine box_event ?hg (N := 7) ?hd (cs := #[.int .u64 0, .int .u32 0, .int .u32 0, .string (⟨#[]⟩ : ByteArray)]) (t := 26) ?hr ?_; (case hd => rfl); (case hg => rfl); (case hr => first | (go_simp; done) | (go_simp; rfl)); intro gb360 hg w41 hbox hb; have n0_ := Aside0.mk (blk_below (g := gb354) (o := .cells #[.int .u32 a0_0, .int .u32 a0_1, .int .i64 a0_2, .slice (some ad359) l0_3.length c0_3, .slice A0_4 l0_4.length c0_4] 33 (0, 0)) (by (with_reducible repeat (first | refine blk_drewN ?_ _ | refine blk_drew ?_ | refine blk_alloc ?_ _)); exact BK354.out) hb); have n1_ := Aside0.mk (blk_below (g := gb355) (o := .cells #[.int .u32 a1_0, .int .u32 a1_1, .int .u32 a1_2, .int .u32 a1_3] 53 (0, 0)) (by (with_reducible repeat (first | refine blk_drewN ?_ _ | refine blk_drew ?_ | refine blk_alloc ?_ _)); exact BK355.out) hb); have n2_ := Aside0.mk (below_step (by repeat (first | (with_reducible first | exact HB.out | apply below_alloc | apply pw_below_drewN | apply below_drew1 | refine below_set ?_ GE354.out | refine below_set ?_ GE355.out) | exact HB.out)) hb); have n3_ := Aside0.mk (hbox); have n4_ := Aside0.mk ((by rw [hg]; exact (below_size (by repeat (first | (with_reducible first | exact HB.out | apply below_alloc | apply pw_below_drewN | apply below_drew1 | refine below_set ?_ GE354.out | refine below_set ?_ GE355.out) | exact HB.out))) : w.heap.size ≤ gb360)); have n5_ := Aside0.mk ((by rw [hg]; exact (below_size (by repeat (first | (with_reducible first | exact HB.out | apply below_alloc | apply pw_below_drewN | apply below_drew1 | refine below_set ?_ GE354.out | refine below_set ?_ GE355.out) | exact HB.out))) : w.heap.size ≤ gb360)); have n6_ := Aside0.mk ((by rw [hg]; exact Nat.ne_of_lt (blk_lt (g := gb354) (o := .cells #[.int .u32 a0_0, .int .u32 a0_1, .int .i64 a0_2, .slice (some ad359) l0_3.length c0_3, .slice A0_4 l0_4.length c0_4] 33 (0, 0)) (by (with_reducible repeat (first | refine blk_drewN ?_ _ | refine blk_drew ?_ | refine blk_alloc ?_ _)); exact BK354.out)) : gb354 ≠ gb360)); have n7_ := Aside0.mk ((by rw [hg]; exact Nat.ne_of_gt (blk_lt (g := gb354) (o := .cells #[.int .u32 a0_0, .int .u32 a0_1, .int .i64 a0_2, .slice (some ad359) l0_3.length c0_3, .slice A0_4 l0_4.length c0_4] 33 (0, 0)) (by (with_reducible repeat (first | refine blk_drewN ?_ _ | refine blk_drew ?_ | refine blk_alloc ?_ _)); exact BK354.out)) : gb360 ≠ gb354)); have n8_ := Aside0.mk ((by rw [hg]; exact Nat.ne_of_lt (blk_lt (g := gb355) (o := .cells #[.int .u32 a1_0, .int .u32 a1_1, .int .u32 a1_2, .int .u32 a1_3] 53 (0, 0)) (by (with_reducible repeat (first | refine blk_drewN ?_ _ | refine blk_drew ?_ | refine blk_alloc ?_ _)); exact BK355.out)) : gb355 ≠ gb360)); have n9_ := Aside0.mk ((by rw [hg]; exact Nat.ne_of_gt (blk_lt (g := gb355) (o := .cells #[.int .u32 a1_0, .int .u32 a1_1, .int .u32 a1_2, .int .u32 a1_3] 53 (0, 0)) (by (with_reducible repeat (first | refine blk_drewN ?_ _ | refine blk_drew ?_ | refine blk_alloc ?_ _)); exact BK355.out)) : gb360 ≠ gb355)); clear BK354; clear BK355; clear HB; have BK354 := n0_; have BK355 := n1_; have HB := n2_; have BK360 := n3_; have GW360 := n4_; have GE360 := n5_; have NB354_360 := n6_; have NB360_354 := n7_; have NB355_360 := n8_; have NB360_355 := n9_; clear n0_ n1_ n2_ n3_ n4_ n5_ n6_ n7_ n8_ n9_; clear hb hbox hg; have hnb42 := NB360_354.out; have hnc42 := NB354_360.out; have hnb43 := NB360_355.out; have hnc43 := NB355_360.out; have hcz44_0 : w41.cell? ⟨gb360, 0, none⟩ = some (.int .u64 0) := (blk_cell BK360.out 0).trans rfl; have hcz44_1 : w41.cell? ⟨gb360, 1, none⟩ = some (.int .u32 0) := (blk_cell BK360.out 1).trans rfl; have hcz44_2 : w41.cell? ⟨gb360, 2, none⟩ = some (.int .u32 0) := (blk_cell BK360.out 2).trans rfl; have hcz44_3 : w41.cell? ⟨gb360, 3, none⟩ = some (.string (⟨#[]⟩ : ByteArray)) := (blk_cell BK360.out 3).trans rfl; have hfz44_0 := blk_frozen BK360.out 0; have hfz44_1 := blk_frozen BK360.out 1; have hfz44_2 := blk_frozen BK360.out 2; have hfz44_3 := blk_frozen BK360.out 3; have hnb45 := NB355_354.out; have hnc45 := NB354_355.out; have hcz46_0 : w41.cell? ⟨gb355, 0, none⟩ = some (.int .u32 a1_0) := (blk_cell BK355.out 0).trans rfl; have hcz46_1 : w41.cell? ⟨gb355, 1, none⟩ = some (.int .u32 a1_1) := (blk_cell BK355.out 1).trans rfl; have hcz46_2 : w41.cell? ⟨gb355, 2, none⟩ = some (.int .u32 a1_2) := (blk_cell BK355.out 2).trans rfl; have hcz46_3 : w41.cell? ⟨gb355, 3, none⟩ = some (.int .u32 a1_3) := (blk_cell BK355.out 3).trans rfl; have hfz46_0 := blk_frozen BK355.out 0; have hfz46_1 := blk_frozen BK355.out 1; have hfz46_2 := blk_frozen BK355.out 2; have hfz46_3 := blk_frozen BK355.out 3) | ((with_reducible refine gate_callee (f := 50) rfl ?_); refine goesL_ (some 35) rfl rfl Try.func50 (by kernel_rfl) rfl #[.agg #[.int .u32 a1_0, .int .u32 a1_1, .int .u32 a1_2, .int .u32 a1_3], .int .u32 ((rd_T26 l0_3 x26_1).f1), .int .u32 ((rd_T26 l0_3 x26_1).f2)] rfl (by (try simp only [List.map_toArray, List.map_cons, List.map_nil]); first | done | rfl | (simp only [List.length_drop, List.length_take]; rfl)) ?_; (with_reducible refine (cell_In.calls a1_0 a1_1 a1_2 a1_3 ((rd_T26 l0_3 x26_1).f1) ((rd_T26 l0_3 x26_1).f2) false _ A32.out).mono ?_); rintro e w47 ⟨rfl, hb⟩; refine ⟨_, rfl, ?_⟩; have n0_ := Aside0.mk (blk_below (g := gb354) (o := .cells #[.int .u32 a0_0, .int .u32 a0_1, .int .i64 a0_2, .slice (some ad359) l0_3.length c0_3, .slice A0_4 l0_4.length c0_4] 33 (0, 0)) (by (with_reducible repeat (first | refine blk_drewN ?_ _ | refine blk_drew ?_ | refine blk_alloc ?_ _)); refine blk_far ?_ NB354_360.out _; (with_reducible repeat (first | refine blk_drewN ?_ _ | refine blk_drew ?_ | refine blk_alloc ?_ _)); refine blk_far ?_ NB354_360.out _; (with_reducible repeat (first | refine blk_drewN ?_ _ | refine blk_drew ?_ | refine blk_alloc ?_ _)); refine blk_far ?_ NB354_360.out _; (with_reducible repeat (first | refine blk_drewN ?_ _ | refine blk_drew ?_ | refine blk_alloc ?_ _)); refine blk_far ?_ NB354_360.out _; (with_reducible repeat (first | refine blk_drewN ?_ _ | refine blk_drew ?_ | refine blk_alloc ?_ _)); exact BK354.out) hb); have n1_ := Aside0.mk (blk_below (g := gb355) (o := .cells #[.int .u32 a1_0, .int .u32 a1_1, .int .u32 a1_2, .int .u32 a1_3] 53 (0, 0)) (by (with_reducible repeat (first | refine blk_drewN ?_ _ | refine blk_drew ?_ | refine blk_alloc ?_ _)); refine blk_far ?_ NB355_360.out _; (with_reducible repeat (first | refine blk_drewN ?_ _ | refine blk_drew ?_ | refine blk_alloc ?_ _)); refine blk_far ?_ NB355_360.out _; (with_reducible repeat (first | refine blk_drewN ?_ _ | refine blk_drew ?_ | refine blk_alloc ?_ _)); refine blk_far ?_ NB355_360.out _; (with_reducible repeat (first | refine blk_drewN ?_ _ | refine blk_drew ?_ | refine blk_alloc ?_ _)); refine blk_far ?_ NB355_360.out _; (with_reducible repeat (first | refine blk_drewN ?_ _ | refine blk_drew ?_ | refine blk_alloc ?_ _)); exact BK355.out) hb); have n2_ := Aside0.mk (blk_below (g := gb360) (o := .cells #[.int .u64 ((rd_T26 l0_3 x26_1).f0), .int .u32 ((rd_T26 l0_3 x26_1).f1), .int .u32 ((rd_T26 l0_3 x26_1).f2), .string ((rd_T26 l0_3 x26_1).f3)] 26 (0, 0)) (by (with_reducible repeat (first | refine blk_drewN ?_ _ | refine blk_drew ?_ | refine blk_alloc ?_ _)); refine blk_put (cs := #[.int .u64 ((rd_T26 l0_3 x26_1).f0), .int .u32 ((rd_T26 l0_3 x26_1).f1), .int .u32 ((rd_T26 l0_3 x26_1).f2), .string (⟨#[]⟩ : ByteArray)]) ?_ 3 _ (by first | rfl | (simp; done)); (with_reducible repeat (first | refine blk_drewN ?_ _ | refine blk_drew ?_ | refine blk_alloc ?_ _)); refine blk_put (cs := #[.int .u64 ((rd_T26 l0_3 x26_1).f0), .int .u32 ((rd_T26 l0_3 x26_1).f1), .int .u32 0, .string (⟨#[]⟩ : ByteArray)]) ?_ 2 _ (by first | rfl | (simp; done)); (with_reducible repeat (first | refine blk_drewN ?_ _ | refine blk_drew ?_ | refine blk_alloc ?_ _)); refine blk_put (cs := #[.int .u64 ((rd_T26 l0_3 x26_1).f0), .int .u32 0, .int .u32 0, .string (⟨#[]⟩ : ByteArray)]) ?_ 1 _ (by first | rfl | (simp; done)); (with_reducible repeat (first | refine blk_drewN ?_ _ | refine blk_drew ?_ | refine blk_alloc ?_ _)); refine blk_put (cs := #[.int .u64 0, .int .u32 0, .int .u32 0, .string (⟨#[]⟩ : ByteArray)]) ?_ 0 _ (by first | rfl | (simp; done)); (with_reducible repeat (first | refine blk_drewN ?_ _ | refine blk_drew ?_ | refine blk_alloc ?_ _)); exact BK360.out) hb); have n3_ := Aside0.mk (below_step (by repeat (first | (with_reducible first | exact HB.out | apply below_alloc | apply pw_below_drewN | apply below_drew1 | refine below_set ?_ GE354.out | refine below_set ?_ GE355.out | refine below_set ?_ GE360.out) | exact HB.out)) hb); clear BK354; clear BK355; clear BK360; clear HB; have BK354 := n0_; have BK355 := n1_; have BK360 := n2_; have HB := n3_; clear n0_ n1_ n2_ n3_; (try clear hb); (try clear hb2); (try clear hk); (try clear hi)))
                  go_roundg k1
                  case measure => have := HK1.out; omega
                  case rel => exact ⟨(x5_1), (wrap64 (x26_1 + 1)), (by first | rfl | (simp; done) | (simp [*]; done)), (by first | rfl | (simp; done) | (simp [*]; done)), H', ⟨by have := HK1.out; omega⟩, ⟨by (with_reducible repeat (first | refine blk_drewN ?_ _ | refine blk_drew ?_ | refine blk_alloc ?_ _)); exact BK354.out⟩, ⟨by (with_reducible repeat (first | refine blk_drewN ?_ _ | refine blk_drew ?_ | refine blk_alloc ?_ _)); exact BK355.out⟩, ⟨by repeat (first | (with_reducible first | exact HB.out | apply below_alloc | apply pw_below_drewN | apply below_drew1 | refine below_set ?_ GE354.out | refine below_set ?_ GE355.out | refine below_set ?_ GE360.out) | exact HB.out)⟩⟩
              · rw [if_neg c31] at H
                exact absurd H (by simp)
            · rw [if_neg c30] at H
              exact absurd H (by simp)
          · rw [if_neg c29] at H
            have c29b0 : decide (x26_1 < (l0_3.length : Int)) = false := decide_eq_false c29
            clear c29
            have H' := Aside0.mk H
            clear H
            have hnb48 := NB354_355.out
            have hnc48 := NB355_354.out
            have hcz49_0 : wr.cell? ⟨gb354, 0, none⟩ = some (.int .u32 a0_0) := (blk_cell BK354.out 0).trans rfl
            have hcz49_1 : wr.cell? ⟨gb354, 1, none⟩ = some (.int .u32 a0_1) := (blk_cell BK354.out 1).trans rfl
            have hcz49_2 : wr.cell? ⟨gb354, 2, none⟩ = some (.int .i64 a0_2) := (blk_cell BK354.out 2).trans rfl
            have hcz49_3 : wr.cell? ⟨gb354, 3, none⟩ = some (.slice A0_3 l0_3.length c0_3) := (blk_cell BK354.out 3).trans rfl
            have hcz49_4 : wr.cell? ⟨gb354, 4, none⟩ = some (.slice A0_4 l0_4.length c0_4) := (blk_cell BK354.out 4).trans rfl
            have hfz49_0 := blk_frozen BK354.out 0
            have hfz49_1 := blk_frozen BK354.out 1
            have hfz49_2 := blk_frozen BK354.out 2
            have hfz49_3 := blk_frozen BK354.out 3
            have hfz49_4 := blk_frozen BK354.out 4
            go_wp2
            go_loopg [5, 42] k1 (fun kq v5 v42 w' => ∃ (x5_2 : Int) (x42_2 : Int), v5 = .int .i64 x5_2 ∧ v42 = .int .i64 x42_2 ∧ Aside0 (quad_count.l1 kq x5_2 l0_4 (l0_4.length : Int) x42_2 a1_0 a1_1 a1_2 a1_3 = some r) ∧ Aside0 (kq ≤ k1) ∧ Aside0 (w'.heap[gb354]? = some (.cells #[.int .u32 a0_0, .int .u32 a0_1, .int .i64 a0_2, (.slice A0_3 l0_3.length c0_3), (.slice A0_4 l0_4.length c0_4)] 33 (0, 0))) ∧ Aside0 (w'.heap[gb355]? = some (.cells #[.int .u32 a1_0, .int .u32 a1_1, .int .u32 a1_2, .int .u32 a1_3] 53 (0, 0))) ∧ Aside0 (Below w.heap.size w w'))
            case atStart => exact ⟨(x5_1), (0), (by first | rfl | (simp; done) | (simp [*]; done)), (by first | rfl | (simp; done) | (simp [*]; done)), H', ⟨Nat.le_refl _⟩, ⟨by (with_reducible repeat (first | refine blk_drewN ?_ _ | refine blk_drew ?_ | refine blk_alloc ?_ _)); exact BK354.out⟩, ⟨by (with_reducible repeat (first | refine blk_drewN ?_ _ | refine blk_drew ?_ | refine blk_alloc ?_ _)); exact BK355.out⟩, ⟨by repeat (first | (with_reducible first | exact HB.out | apply below_alloc | apply pw_below_drewN | apply below_drew1 | refine below_set ?_ GE354.out | refine below_set ?_ GE355.out) | exact HB.out)⟩⟩
            case round =>
              clear H'
              try clear c1
              try clear c2
              try clear p2
              try clear c3
              try clear p3
              try clear q3
              try clear hx3
              try clear c4
              try clear c5
              try clear c6
              try clear p6
              try clear c7
              try clear c10
              try clear c21
              try clear c23
              try clear c29
              try clear c29b0
              try clear c30
              try clear c30b0
              try clear c31
              try clear c31b0
              try clear c33
              try clear c35
              try clear p35
              try clear q35
              try clear hx35
              try clear c36
              try clear c38
              try clear c42
              try clear c43
              try clear c45
              try clear c48
              try clear hcz11_0
              try clear hcz11_1
              try clear hcz11_2
              try clear hcz11_3
              try clear hcz11_4
              try clear hcz12_0
              try clear hcz12_1
              try clear hcz12_2
              try clear hcz12_3
              try clear hcz14_0
              try clear hcz14_1
              try clear hcz14_2
              try clear hcz14_3
              try clear hcz14_4
              try clear hcz15_0
              try clear hcz15_1
              try clear hcz15_2
              try clear hcz15_3
              try clear hcz17_0
              try clear hcz17_1
              try clear hcz17_2
              try clear hcz17_3
              try clear hcz17_4
              try clear hcz22_0
              try clear hcz22_1
              try clear hcz22_2
              try clear hcz22_3
              try clear hcz22_4
              try clear hcz23_0
              try clear hcz23_1
              try clear hcz23_2
              try clear hcz23_3
              try clear hcz25_0
              try clear hcz25_1
              try clear hcz25_2
              try clear hcz25_3
              try clear hcz25_4
              try clear hcz26_0
              try clear hcz26_1
              try clear hcz26_2
              try clear hcz26_3
              try clear hcz28_0
              try clear hcz28_1
              try clear hcz28_2
              try clear hcz28_3
              try clear hcz28_4
              try clear hcz37_0
              try clear hcz37_1
              try clear hcz37_2
              try clear hcz37_3
              try clear hcz39_0
              try clear hcz39_1
              try clear hcz39_2
              try clear hcz39_3
              try clear hcz44_0
              try clear hcz44_1
              try clear hcz44_2
              try clear hcz44_3
              try clear hcz46_0
              try clear hcz46_1
              try clear hcz46_2
              try clear hcz46_3
              try clear hcz49_0
              try clear hcz49_1
              try clear hcz49_2
              try clear hcz49_3
              try clear hcz49_4
              try clear hfz11_0
              try clear hfz11_1
              try clear hfz11_2
              try clear hfz11_3
              try clear hfz11_4
              try clear hfz12_0
              try clear hfz12_1
              try clear hfz12_2
              try clear hfz12_3
              try clear hfz14_0
              try clear hfz14_1
              try clear hfz14_2
              try clear hfz14_3
              try clear hfz14_4
              try clear hfz15_0
              try clear hfz15_1
              try clear hfz15_2
              try clear hfz15_3
              try clear hfz17_0
              try clear hfz17_1
              try clear hfz17_2
              try clear hfz17_3
              try clear hfz17_4
              try clear hfz22_0
              try clear hfz22_1
              try clear hfz22_2
              try clear hfz22_3
              try clear hfz22_4
              try clear hfz23_0
              try clear hfz23_1
              try clear hfz23_2
              try clear hfz23_3
              try clear hfz25_0
              try clear hfz25_1
              try clear hfz25_2
              try clear hfz25_3
              try clear hfz25_4
              try clear hfz26_0
              try clear hfz26_1
              try clear hfz26_2
              try clear hfz26_3
              try clear hfz28_0
              try clear hfz28_1
              try clear hfz28_2
              try clear hfz28_3
              try clear hfz28_4
              try clear hfz37_0
              try clear hfz37_1
              try clear hfz37_2
              try clear hfz37_3
              try clear hfz39_0
              try clear hfz39_1
              try clear hfz39_2
              try clear hfz39_3
              try clear hfz44_0
              try clear hfz44_1
              try clear hfz44_2
              try clear hfz44_3
              try clear hfz46_0
              try clear hfz46_1
              try clear hfz46_2
              try clear hfz46_3
              try clear hfz49_0
              try clear hfz49_1
              try clear hfz49_2
              try clear hfz49_3
              try clear hfz49_4
              try clear hx359_0
              try clear hx359_1
              try clear hx359_2
              try clear hx359_3
              try clear p2
              try clear p359
              try clear q359
              obtain ⟨x5_2, x42_2, rfl, rfl, HA, HK2, BK354, BK355, HB⟩ := hrel
              cases gk with
              | zero => exact absurd HA.out (by simp [quad_count.l1])
              | succ k2 =>
                have H := HA.out
                clear HA
                simp only [quad_count.l1] at H
                by_cases c50 : x42_2 < (l0_4.length : Int)
                · rw [if_pos c50] at H
                  have c50b0 : decide (x42_2 < (l0_4.length : Int)) = true := decide_eq_true c50
                  clear c50
                  by_cases c51 : 0 ≤ x42_2
                  · rw [if_pos c51] at H
                    have c51b0 : decide (0 ≤ x42_2) = true := decide_eq_true c51
                    clear c51
                    by_cases c52 : x42_2 < (l0_4.length : Int)
                    · rw [if_pos c52] at H
                      have c52b0 : decide (x42_2 < (l0_4.length : Int)) = true := decide_eq_true c52
                      clear c52
                      replace H := Option.bind_eq_some_iff.mp H
                      obtain ⟨t364, A530, H⟩ := H
                      replace H : (quad_count.l1 k2 (wrap64 (x5_2 + t364)) l0_4 (l0_4.length : Int) (wrap64 (x42_2 + 1)) a1_0 a1_1 a1_2 a1_3) = some r := H
                      have A53 := Aside0.mk A530
                      clear A530
                      have H' := Aside0.mk H
                      clear H
                      have p362 : 0 ≤ (x42_2 : Int) := of_decide_eq_true (by first | (with_reducible assumption) | assumption)
                      have q362 : x42_2 < (l0_4.length : Int) := of_decide_eq_true (by first | (with_reducible assumption) | assumption)
                      obtain ⟨ad362, A362_3, c362_3, A362_4, c362_4, e362, hx362_0, hx362_1, hx362_2, hx362_3, hx362_4, hl362_3, hi362_3, hl362_4, hi362_4⟩ := at_T33 HR0_4.out x42_2 p362 q362
                      cases e362
                      replace hx362_0 := (HB.out.cell (World.block_lt_of_cell? w _ hx362_0)).trans hx362_0
                      replace hx362_1 := (HB.out.cell (World.block_lt_of_cell? w _ hx362_1)).trans hx362_1
                      replace hx362_2 := (HB.out.cell (World.block_lt_of_cell? w _ hx362_2)).trans hx362_2
                      replace hx362_3 := (HB.out.cell (World.block_lt_of_cell? w _ hx362_3)).trans hx362_3
                      replace hx362_4 := (HB.out.cell (World.block_lt_of_cell? w _ hx362_4)).trans hx362_4
                      have HR362_3 := Aside0.mk hi362_3
                      have HC362_3 := Aside0.mk hl362_3
                      clear hi362_3 hl362_3
                      have HR362_4 := Aside0.mk hi362_4
                      have HC362_4 := Aside0.mk hl362_4
                      clear hi362_4 hl362_4
                      replace p362 := eq_true p362
                      replace q362 := eq_true q362
                      go_wp2_with (first | ((with_reducible refine gate_dst (N := 9) rfl ?_); refine box_event ?hg (N := 9) ?hd (cs := #[.int .u32 0, .int .u32 0, .int .i64 0, .slice none 0 0, .slice none 0 0]) (t := 33) ?hr ?_; (case hd => rfl); (case hg => rfl); (case hr => first | (go_simp; done) | (go_simp; rfl)); intro gb363 hg w54 hbox hb; have n0_ := Aside0.mk (blk_below (g := gb354) (o := .cells #[.int .u32 a0_0, .int .u32 a0_1, .int .i64 a0_2, .slice A0_3 l0_3.length c0_3, .slice (some ad362) l0_4.length c0_4] 33 (0, 0)) (by (with_reducible repeat (first | refine blk_drewN ?_ _ | refine blk_drew ?_ | refine blk_alloc ?_ _)); exact BK354.out) hb); have n1_ := Aside0.mk (blk_below (g := gb355) (o := .cells #[.int .u32 a1_0, .int .u32 a1_1, .int .u32 a1_2, .int .u32 a1_3] 53 (0, 0)) (by (with_reducible repeat (first | refine blk_drewN ?_ _ | refine blk_drew ?_ | refine blk_alloc ?_ _)); exact BK355.out) hb); have n2_ := Aside0.mk (below_step (by repeat (first | (with_reducible first | exact HB.out | apply below_alloc | apply pw_below_drewN | apply below_drew1 | refine below_set ?_ GE354.out | refine below_set ?_ GE355.out) | exact HB.out)) hb); have n3_ := Aside0.mk (hbox); have n4_ := Aside0.mk ((by rw [hg]; exact (below_size (by repeat (first | (with_reducible first | exact HB.out | apply below_alloc | apply pw_below_drewN | apply below_drew1 | refine below_set ?_ GE354.out | refine below_set ?_ GE355.out) | exact HB.out))) : w.heap.size ≤ gb363)); have n5_ := Aside0.mk ((by rw [hg]; exact (below_size (by repeat (first | (with_reducible first | exact HB.out | apply below_alloc | apply pw_below_drewN | apply below_drew1 | refine below_set ?_ GE354.out | refine below_set ?_ GE355.out) | exact HB.out))) : w.heap.size ≤ gb363)); have n6_ := Aside0.mk ((by rw [hg]; exact Nat.ne_of_lt (blk_lt (g := gb354) (o := .cells #[.int .u32 a0_0, .int .u32 a0_1, .int .i64 a0_2, .slice A0_3 l0_3.length c0_3, .slice (some ad362) l0_4.length c0_4] 33 (0, 0)) (by (with_reducible repeat (first | refine blk_drewN ?_ _ | refine blk_drew ?_ | refine blk_alloc ?_ _)); exact BK354.out)) : gb354 ≠ gb363)); have n7_ := Aside0.mk ((by rw [hg]; exact Nat.ne_of_gt (blk_lt (g := gb354) (o := .cells #[.int .u32 a0_0, .int .u32 a0_1, .int .i64 a0_2, .slice A0_3 l0_3.length c0_3, .slice (some ad362) l0_4.length c0_4] 33 (0, 0)) (by (with_reducible repeat (first | refine blk_drewN ?_ _ | refine blk_drew ?_ | refine blk_alloc ?_ _)); exact BK354.out)) : gb363 ≠ gb354)); have n8_ := Aside0.mk ((by rw [hg]; exact Nat.ne_of_lt (blk_lt (g := gb355) (o := .cells #[.int .u32 a1_0, .int .u32 a1_1, .int .u32 a1_2, .int .u32 a1_3] 53 (0, 0)) (by (with_reducible repeat (first | refine blk_drewN ?_ _ | refine blk_drew ?_ | refine blk_alloc ?_ _)); exact BK355.out)) : gb355 ≠ gb363)); have n9_ := Aside0.mk ((by rw [hg]; exact Nat.ne_of_gt (blk_lt (g := gb355) (o := .cells #[.int .u32 a1_0, .int .u32 a1_1, .int .u32 a1_2, .int .u32 a1_3] 53 (0, 0)) (by (with_reducible repeat (first | refine blk_drewN ?_ _ | refine blk_drew ?_ | refine blk_alloc ?_ _)); exact BK355.out)) : gb363 ≠ gb355)); clear BK354; clear BK355; clear HB; have BK354 := n0_; have BK355 := n1_; have HB := n2_; have BK363 := n3_; have GW363 := n4_; have GE363 := n5_; have NB354_363 := n6_; have NB363_354 := n7_; have NB355_363 := n8_; have NB363_355 := n9_; clear n0_ n1_ n2_ n3_ n4_ n5_ n6_ n7_ n8_ n9_; clear hb hbox hg; have hnb55 := NB363_354.out; have hnc55 := NB354_363.out; have hnb56 := NB363_355.out; have hnc56 := NB355_363.out; have hcz57_0 : w54.cell? ⟨gb363, 0, none⟩ = some (.int .u32 0) := (blk_cell BK363.out 0).trans rfl; have hcz57_1 : w54.cell? ⟨gb363, 1, none⟩ = some (.int .u32 0) := (blk_cell BK363.out 1).trans rfl; have hcz57_2 : w54.cell? ⟨gb363, 2, none⟩ = some (.int .i64 0) := (blk_cell BK363.out 2).trans rfl; have hcz57_3 : w54.cell? ⟨gb363, 3, none⟩ = some (.slice none 0 0) := (blk_cell BK363.out 3).trans rfl; have hcz57_4 : w54.cell? ⟨gb363, 4, none⟩ = some (.slice none 0 0) := (blk_cell BK363.out 4).trans rfl; have hfz57_0 := blk_frozen BK363.out 0; have hfz57_1 := blk_frozen BK363.out 1; have hfz57_2 := blk_frozen BK363.out 2; have hfz57_3 := blk_frozen BK363.out 3; have hfz57_4 := blk_frozen BK363.out 4; have hnb58 := NB355_354.out; have hnc58 := NB354_355.out; have hcz59_0 : w54.cell? ⟨gb355, 0, none⟩ = some (.int .u32 a1_0) := (blk_cell BK355.out 0).trans rfl; have hcz59_1 : w54.cell? ⟨gb355, 1, none⟩ = some (.int .u32 a1_1) := (blk_cell BK355.out 1).trans rfl; have hcz59_2 : w54.cell? ⟨gb355, 2, none⟩ = some (.int .u32 a1_2) := (blk_cell BK355.out 2).trans rfl; have hcz59_3 : w54.cell? ⟨gb355, 3, none⟩ = some (.int .u32 a1_3) := (blk_cell BK355.out 3).trans rfl; have hfz59_0 := blk_frozen BK355.out 0; have hfz59_1 := blk_frozen BK355.out 1; have hfz59_2 := blk_frozen BK355.out 2; have hfz59_3 := blk_frozen BK355.out 3) | ((with_reducible refine gate_callee (f := 53) rfl ?_); refine goesL_ (some 49) rfl rfl Try.func53 (by kernel_rfl) rfl #[.agg #[.int .u32 ((rd_T33 l0_4 x42_2).f0.f0), .int .u32 ((rd_T33 l0_4 x42_2).f0.f1), .int .i64 ((rd_T33 l0_4 x42_2).f0.f2), .slice A362_3 ((rd_T33 l0_4 x42_2).f1).length c362_3, .slice A362_4 ((rd_T33 l0_4 x42_2).f2).length c362_4], .agg #[.int .u32 a1_0, .int .u32 a1_1, .int .u32 a1_2, .int .u32 a1_3]] rfl (by (try simp only [List.map_toArray, List.map_cons, List.map_nil]); first | done | rfl | (simp only [List.length_drop, List.length_take]; rfl)) ?_; (with_reducible refine (ih k2 (by have := HK1.out; have := HK2.out; omega) ((rd_T33 l0_4 x42_2).f0.f0) ((rd_T33 l0_4 x42_2).f0.f1) ((rd_T33 l0_4 x42_2).f0.f2) _ _ ((rd_T33 l0_4 x42_2).f1) _ _ ((rd_T33 l0_4 x42_2).f2) a1_0 a1_1 a1_2 a1_3 t364 _ ?side1 ?side2 ?side3 ?side4 A53.out).mono ?_); (case side1 => exact Kd.C_below HR362_3.out (by repeat (first | (with_reducible first | exact HB.out | apply below_alloc | apply pw_below_drewN | apply below_drew1 | refine below_set ?_ GE354.out | refine below_set ?_ GE355.out | refine below_set ?_ GE363.out) | exact HB.out))); (case side2 => exact HC362_3.out); (case side3 => exact Kd.C_below HR362_4.out (by repeat (first | (with_reducible first | exact HB.out | apply below_alloc | apply pw_below_drewN | apply below_drew1 | refine below_set ?_ GE354.out | refine below_set ?_ GE355.out | refine below_set ?_ GE363.out) | exact HB.out))); (case side4 => exact HC362_4.out); rintro e w60 ⟨rfl, hb⟩; refine ⟨_, rfl, ?_⟩; have n0_ := Aside0.mk (blk_below (g := gb354) (o := .cells #[.int .u32 a0_0, .int .u32 a0_1, .int .i64 a0_2, .slice A0_3 l0_3.length c0_3, .slice (some ad362) l0_4.length c0_4] 33 (0, 0)) (by (with_reducible repeat (first | refine blk_drewN ?_ _ | refine blk_drew ?_ | refine blk_alloc ?_ _)); refine blk_far ?_ NB354_363.out _; (with_reducible repeat (first | refine blk_drewN ?_ _ | refine blk_drew ?_ | refine blk_alloc ?_ _)); refine blk_far ?_ NB354_363.out _; (with_reducible repeat (first | refine blk_drewN ?_ _ | refine blk_drew ?_ | refine blk_alloc ?_ _)); refine blk_far ?_ NB354_363.out _; (with_reducible repeat (first | refine blk_drewN ?_ _ | refine blk_drew ?_ | refine blk_alloc ?_ _)); refine blk_far ?_ NB354_363.out _; (with_reducible repeat (first | refine blk_drewN ?_ _ | refine blk_drew ?_ | refine blk_alloc ?_ _)); refine blk_far ?_ NB354_363.out _; (with_reducible repeat (first | refine blk_drewN ?_ _ | refine blk_drew ?_ | refine blk_alloc ?_ _)); exact BK354.out) hb); have n1_ := Aside0.mk (blk_below (g := gb355) (o := .cells #[.int .u32 a1_0, .int .u32 a1_1, .int .u32 a1_2, .int .u32 a1_3] 53 (0, 0)) (by (with_reducible repeat (first | refine blk_drewN ?_ _ | refine blk_drew ?_ | refine blk_alloc ?_ _)); refine blk_far ?_ NB355_363.out _; (with_reducible repeat (first | refine blk_drewN ?_ _ | refine blk_drew ?_ | refine blk_alloc ?_ _)); refine blk_far ?_ NB355_363.out _; (with_reducible repeat (first | refine blk_drewN ?_ _ | refine blk_drew ?_ | refine blk_alloc ?_ _)); refine blk_far ?_ NB355_363.out _; (with_reducible repeat (first | refine blk_drewN ?_ _ | refine blk_drew ?_ | refine blk_alloc ?_ _)); refine blk_far ?_ NB355_363.out _; (with_reducible repeat (first | refine blk_drewN ?_ _ | refine blk_drew ?_ | refine blk_alloc ?_ _)); refine blk_far ?_ NB355_363.out _; (with_reducible repeat (first | refine blk_drewN ?_ _ | refine blk_drew ?_ | refine blk_alloc ?_ _)); exact BK355.out) hb); have n2_ := Aside0.mk (blk_below (g := gb363) (o := .cells #[.int .u32 ((rd_T33 l0_4 x42_2).f0.f0), .int .u32 ((rd_T33 l0_4 x42_2).f0.f1), .int .i64 ((rd_T33 l0_4 x42_2).f0.f2), .slice A362_3 ((rd_T33 l0_4 x42_2).f1).length c362_3, .slice A362_4 ((rd_T33 l0_4 x42_2).f2).length c362_4] 33 (0, 0)) (by (with_reducible repeat (first | refine blk_drewN ?_ _ | refine blk_drew ?_ | refine blk_alloc ?_ _)); refine blk_put (cs := #[.int .u32 ((rd_T33 l0_4 x42_2).f0.f0), .int .u32 ((rd_T33 l0_4 x42_2).f0.f1), .int .i64 ((rd_T33 l0_4 x42_2).f0.f2), .slice A362_3 ((rd_T33 l0_4 x42_2).f1).length c362_3, .slice none 0 0]) ?_ 4 _ (by first | rfl | (simp; done)); (with_reducible repeat (first | refine blk_drewN ?_ _ | refine blk_drew ?_ | refine blk_alloc ?_ _)); refine blk_put (cs := #[.int .u32 ((rd_T33 l0_4 x42_2).f0.f0), .int .u32 ((rd_T33 l0_4 x42_2).f0.f1), .int .i64 ((rd_T33 l0_4 x42_2).f0.f2), .slice none 0 0, .slice none 0 0]) ?_ 3 _ (by first | rfl | (simp; done)); (with_reducible repeat (first | refine blk_drewN ?_ _ | refine blk_drew ?_ | refine blk_alloc ?_ _)); refine blk_put (cs := #[.int .u32 ((rd_T33 l0_4 x42_2).f0.f0), .int .u32 ((rd_T33 l0_4 x42_2).f0.f1), .int .i64 0, .slice none 0 0, .slice none 0 0]) ?_ 2 _ (by first | rfl | (simp; done)); (with_reducible repeat (first | refine blk_drewN ?_ _ | refine blk_drew ?_ | refine blk_alloc ?_ _)); refine blk_put (cs := #[.int .u32 ((rd_T33 l0_4 x42_2).f0.f0), .int .u32 0, .int .i64 0, .slice none 0 0, .slice none 0 0]) ?_ 1 _ (by first | rfl | (simp; done)); (with_reducible repeat (first | refine blk_drewN ?_ _ | refine blk_drew ?_ | refine blk_alloc ?_ _)); refine blk_put (cs := #[.int .u32 0, .int .u32 0, .int .i64 0, .slice none 0 0, .slice none 0 0]) ?_ 0 _ (by first | rfl | (simp; done)); (with_reducible repeat (first | refine blk_drewN ?_ _ | refine blk_drew ?_ | refine blk_alloc ?_ _)); exact BK363.out) hb); have n3_ := Aside0.mk (below_step (by repeat (first | (with_reducible first | exact HB.out | apply below_alloc | apply pw_below_drewN | apply below_drew1 | refine below_set ?_ GE354.out | refine below_set ?_ GE355.out | refine below_set ?_ GE363.out) | exact HB.out)) hb); clear BK354; clear BK355; clear BK363; clear HB; have BK354 := n0_; have BK355 := n1_; have BK363 := n2_; have HB := n3_; clear n0_ n1_ n2_ n3_; (try clear hb); (try clear hb2); (try clear hk); (try clear hi)))
                      go_roundg k2
                      case measure => have := HK1.out; have := HK2.out; omega
                      case rel => exact ⟨(wrap64 (x5_2 + t364)), (wrap64 (x42_2 + 1)), (by first | rfl | (simp; done) | (simp [*]; done)), (by first | rfl | (simp; done) | (simp [*]; done)), H', ⟨by have := HK1.out; have := HK2.out; omega⟩, ⟨by (with_reducible repeat (first | refine blk_drewN ?_ _ | refine blk_drew ?_ | refine blk_alloc ?_ _)); exact BK354.out⟩, ⟨by (with_reducible repeat (first | refine blk_drewN ?_ _ | refine blk_drew ?_ | refine blk_alloc ?_ _)); exact BK355.out⟩, ⟨by repeat (first | (with_reducible first | exact HB.out | apply below_alloc | apply pw_below_drewN | apply below_drew1 | refine below_set ?_ GE354.out | refine below_set ?_ GE355.out | refine below_set ?_ GE363.out) | exact HB.out)⟩⟩
                    · rw [if_neg c52] at H
                      exact absurd H (by simp)
                  · rw [if_neg c51] at H
                    exact absurd H (by simp)
                · rw [if_neg c50] at H
                  have c50b0 : decide (x42_2 < (l0_4.length : Int)) = false := decide_eq_false c50
                  clear c50
                  obtain rfl := Option.some.inj H
                  go_wp2
                  go_ret
                  exact ⟨by first | rfl | (simp [errW_none, errW_some] <;> rfl) | (simp [*, errW_none, errW_some] <;> rfl), by repeat (first | (with_reducible first | exact HB.out | apply below_alloc | apply pw_below_drewN | apply below_drew1 | refine below_set ?_ GE354.out | refine below_set ?_ GE355.out) | exact HB.out)⟩
  · replace c4 := Bool.eq_false_iff.mpr c4
    subst c4
    have H1 : (some 0) = some r := by rw [if_neg (show ¬ (false = true) by decide)] at H; exact H
    clear H
    have H := H1
    clear H1
    obtain rfl := Option.some.inj H
    go_enter Try.func53, Try.ntmps53
    go_wp2_with (first | ((with_reducible refine gate_dst (N := 2) rfl ?_); refine box_event ?hg (N := 2) ?hd (cs := #[.int .u32 a0_0, .int .u32 a0_1, .int .i64 a0_2, .slice A0_3 l0_3.length c0_3, .slice A0_4 l0_4.length c0_4]) (t := 33) ?hr ?_; (case hd => rfl); (case hg => rfl); (case hr => first | (go_simp; done) | (go_simp; rfl)); intro gb354 hg w61 hbox hb; have n0_ := Aside0.mk (below_step (by repeat (first | (with_reducible first | exact HB.out | apply below_alloc | apply pw_below_drewN | apply below_drew1) | exact HB.out)) hb); have n1_ := Aside0.mk (hbox); have n2_ := Aside0.mk ((by rw [hg]; exact (below_size (by repeat (first | (with_reducible first | exact HB.out | apply below_alloc | apply pw_below_drewN | apply below_drew1) | exact HB.out))) : w.heap.size ≤ gb354)); have n3_ := Aside0.mk ((by rw [hg]; exact (below_size (by repeat (first | (with_reducible first | exact HB.out | apply below_alloc | apply pw_below_drewN | apply below_drew1) | exact HB.out))) : w.heap.size ≤ gb354)); clear HB; have HB := n0_; have BK354 := n1_; have GW354 := n2_; have GE354 := n3_; clear n0_ n1_ n2_ n3_; clear hb hbox hg) | ((with_reducible refine gate_dst (N := 3) rfl ?_); refine box_event ?hg (N := 3) ?hd (cs := #[.int .u32 a1_0, .int .u32 a1_1, .int .u32 a1_2, .int .u32 a1_3]) (t := 53) ?hr ?_; (case hd => rfl); (case hg => rfl); (case hr => first | (go_simp; done) | (go_simp; rfl)); intro gb355 hg w62 hbox hb; have n0_ := Aside0.mk (blk_below (g := gb354) (o := .cells #[.int .u32 a0_0, .int .u32 a0_1, .int .i64 a0_2, .slice A0_3 l0_3.length c0_3, .slice A0_4 l0_4.length c0_4] 33 (0, 0)) (by (with_reducible repeat (first | refine blk_drewN ?_ _ | refine blk_drew ?_ | refine blk_alloc ?_ _)); exact BK354.out) hb); have n1_ := Aside0.mk (below_step (by repeat (first | (with_reducible first | exact HB.out | apply below_alloc | apply pw_below_drewN | apply below_drew1 | refine below_set ?_ GE354.out) | exact HB.out)) hb); have n2_ := Aside0.mk (hbox); have n3_ := Aside0.mk ((by rw [hg]; exact (below_size (by repeat (first | (with_reducible first | exact HB.out | apply below_alloc | apply pw_below_drewN | apply below_drew1 | refine below_set ?_ GE354.out) | exact HB.out))) : w.heap.size ≤ gb355)); have n4_ := Aside0.mk ((by rw [hg]; exact (below_size (by repeat (first | (with_reducible first | exact HB.out | apply below_alloc | apply pw_below_drewN | apply below_drew1 | refine below_set ?_ GE354.out) | exact HB.out))) : w.heap.size ≤ gb355)); have n5_ := Aside0.mk ((by rw [hg]; exact Nat.ne_of_lt (blk_lt (g := gb354) (o := .cells #[.int .u32 a0_0, .int .u32 a0_1, .int .i64 a0_2, .slice A0_3 l0_3.length c0_3, .slice A0_4 l0_4.length c0_4] 33 (0, 0)) (by (with_reducible repeat (first | refine blk_drewN ?_ _ | refine blk_drew ?_ | refine blk_alloc ?_ _)); exact BK354.out)) : gb354 ≠ gb355)); have n6_ := Aside0.mk ((by rw [hg]; exact Nat.ne_of_gt (blk_lt (g := gb354) (o := .cells #[.int .u32 a0_0, .int .u32 a0_1, .int .i64 a0_2, .slice A0_3 l0_3.length c0_3, .slice A0_4 l0_4.length c0_4] 33 (0, 0)) (by (with_reducible repeat (first | refine blk_drewN ?_ _ | refine blk_drew ?_ | refine blk_alloc ?_ _)); exact BK354.out)) : gb355 ≠ gb354)); clear BK354; clear HB; have BK354 := n0_; have HB := n1_; have BK355 := n2_; have GW355 := n3_; have GE355 := n4_; have NB354_355 := n5_; have NB355_354 := n6_; clear n0_ n1_ n2_ n3_ n4_ n5_ n6_; clear hb hbox hg; have hnb63 := NB354_355.out; have hnc63 := NB355_354.out; have hcz64_0 : w62.cell? ⟨gb354, 0, none⟩ = some (.int .u32 a0_0) := (blk_cell BK354.out 0).trans rfl; have hcz64_1 : w62.cell? ⟨gb354, 1, none⟩ = some (.int .u32 a0_1) := (blk_cell BK354.out 1).trans rfl; have hcz64_2 : w62.cell? ⟨gb354, 2, none⟩ = some (.int .i64 a0_2) := (blk_cell BK354.out 2).trans rfl; have hcz64_3 : w62.cell? ⟨gb354, 3, none⟩ = some (.slice A0_3 l0_3.length c0_3) := (blk_cell BK354.out 3).trans rfl; have hcz64_4 : w62.cell? ⟨gb354, 4, none⟩ = some (.slice A0_4 l0_4.length c0_4) := (blk_cell BK354.out 4).trans rfl; have hfz64_0 := blk_frozen BK354.out 0; have hfz64_1 := blk_frozen BK354.out 1; have hfz64_2 := blk_frozen BK354.out 2; have hfz64_3 := blk_frozen BK354.out 3; have hfz64_4 := blk_frozen BK354.out 4; have hcz65_0 : w62.cell? ⟨gb355, 0, none⟩ = some (.int .u32 a1_0) := (blk_cell BK355.out 0).trans rfl; have hcz65_1 : w62.cell? ⟨gb355, 1, none⟩ = some (.int .u32 a1_1) := (blk_cell BK355.out 1).trans rfl; have hcz65_2 : w62.cell? ⟨gb355, 2, none⟩ = some (.int .u32 a1_2) := (blk_cell BK355.out 2).trans rfl; have hcz65_3 : w62.cell? ⟨gb355, 3, none⟩ = some (.int .u32 a1_3) := (blk_cell BK355.out 3).trans rfl; have hfz65_0 := blk_frozen BK355.out 0; have hfz65_1 := blk_frozen BK355.out 1; have hfz65_2 := blk_frozen BK355.out 2; have hfz65_3 := blk_frozen BK355.out 3) | ((with_reducible refine gate_callee (f := 48) rfl ?_); refine goesL_ (some 14) rfl rfl Try.func48 (by kernel_rfl) rfl #[.agg #[.int .u32 a0_0, .int .u32 a0_1, .int .i64 a0_2], .agg #[.int .u32 a1_0, .int .u32 a1_1, .int .u32 a1_2, .int .u32 a1_3]] rfl (by (try simp only [List.map_toArray, List.map_cons, List.map_nil]); first | done | rfl | (simp only [List.length_drop, List.length_take]; rfl)) ?_; (with_reducible refine (cell_Touches.calls a0_0 a0_1 a0_2 a1_0 a1_1 a1_2 a1_3 false _ A3.out).mono ?_); rintro e w66 ⟨rfl, hb⟩; refine ⟨_, rfl, ?_⟩; have n0_ := Aside0.mk (blk_below (g := gb354) (o := .cells #[.int .u32 a0_0, .int .u32 a0_1, .int .i64 a0_2, .slice A0_3 l0_3.length c0_3, .slice A0_4 l0_4.length c0_4] 33 (0, 0)) (by (with_reducible repeat (first | refine blk_drewN ?_ _ | refine blk_drew ?_ | refine blk_alloc ?_ _)); exact BK354.out) hb); have n1_ := Aside0.mk (blk_below (g := gb355) (o := .cells #[.int .u32 a1_0, .int .u32 a1_1, .int .u32 a1_2, .int .u32 a1_3] 53 (0, 0)) (by (with_reducible repeat (first | refine blk_drewN ?_ _ | refine blk_drew ?_ | refine blk_alloc ?_ _)); exact BK355.out) hb); have n2_ := Aside0.mk (below_step (by repeat (first | (with_reducible first | exact HB.out | apply below_alloc | apply pw_below_drewN | apply below_drew1 | refine below_set ?_ GE354.out | refine below_set ?_ GE355.out) | exact HB.out)) hb); clear BK354; clear BK355; clear HB; have BK354 := n0_; have BK355 := n1_; have HB := n2_; clear n0_ n1_ n2_; (try clear hb); (try clear hb2); (try clear hk); (try clear hi)))
    go_ret
    exact ⟨by first | rfl | (simp [errW_none, errW_some] <;> rfl) | (simp [*, errW_none, errW_some] <;> rfl), by repeat (first | (with_reducible first | exact HB.out | apply below_alloc | apply pw_below_drewN | apply below_drew1 | refine below_set ?_ GE354.out | refine below_set ?_ GE355.out) | exact HB.out)⟩

/-! ### quad_Count: function 30 -/
def quad_Count.f (k : Nat) (a0_0 : Int) (a0_1 : Int) (a0_2 : Int) (l0_3 : List (S26)) (l0_4 : List (S33)) (a1_0 : Int) (a1_1 : Int) (a1_2 : Int) (a1_3 : Int) : Option (Int × Int) := (cell_RightBox.f a1_0 a1_1 a1_2 a1_3).bind fun t367 => (if t367 = true then ((quad_count.f k a0_0 a0_1 a0_2 l0_3 l0_4 a1_0 a1_1 a1_2 a1_3).bind fun t368 => (some (t368, 0))) else (some (0, 81)))
theorem quad_Count.mono : ∀ a0 a1 a2 a3 a4 a5 a6 a7 a8 k, LeO (quad_Count.f k a0 a1 a2 a3 a4 a5 a6 a7 a8) (quad_Count.f (k + 1) a0 a1 a2 a3 a4 a5 a6 a7 a8) := by
  intro a0 a1 a2 a3 a4 a5 a6 a7 a8 k
  unfold quad_Count.f
  repeat' first
      | (with_reducible exact quad_count.mono _ _ _ _ _ _ _ _ _ _)
      | (with_reducible exact LeO.refl _)
      | (with_reducible exact LeO.none _)
      | (with_reducible refine LeO.ite ?_ ?_)
      | (with_reducible refine LeO.bind ?_ (fun _ => ?_))
      | exact quad_count.mono _ _ _ _ _ _ _ _ _ _
      | exact LeO.none _
      | refine LeO.ite ?_ ?_
      | refine LeO.bind ?_ (fun _ => ?_)
set_option maxHeartbeats 8000000 in
set_option maxRecDepth 100000 in
theorem quad_Count.calls (k : Nat) (a0_0 : Int) (a0_1 : Int) (a0_2 : Int) (A0_3 : Option Addr) (c0_3 : Nat) (l0_3 : List (S26)) (A0_4 : Option Addr) (c0_4 : Nat) (l0_4 : List (S33)) (a1_0 : Int) (a1_1 : Int) (a1_2 : Int) (a1_3 : Int) (r1 : Int) (r2 : Int) (w : World) (hr0_3 : Kd.C k26 w A0_3 l0_3.length l0_3) (hc0_3 : l0_3.length ≤ c0_3) (hr0_4 : Kd.C k33 w A0_4 l0_4.length l0_4) (hc0_4 : l0_4.length ≤ c0_4) (h : quad_Count.f k a0_0 a0_1 a0_2 l0_3 l0_4 a1_0 a1_1 a1_2 a1_3 = some (r1, r2)) :
    Calls Try.prog 30 #[.agg #[.int .u32 a0_0, .int .u32 a0_1, .int .i64 a0_2, .slice A0_3 l0_3.length c0_3, .slice A0_4 l0_4.length c0_4], .agg #[.int .u32 a1_0, .int .u32 a1_1, .int .u32 a1_2, .int .u32 a1_3]] w fun e w' => e = .returned (.tuple #[.int .i64 r1, .int .i64 r2]) ∧ Below w.heap.size w w' := by
  have hu33 := Try.underlying33
  have hu53 := Try.underlying53
  have HR0_3 := Aside0.mk hr0_3
  have HC0_3 := Aside0.mk hc0_3
  clear hr0_3 hc0_3
  have HR0_4 := Aside0.mk hr0_4
  have HC0_4 := Aside0.mk hc0_4
  clear hr0_4 hc0_4
  have HB := Aside0.mk (Below.refl w.heap.size w)
  have H : ((cell_RightBox.f a1_0 a1_1 a1_2 a1_3).bind fun t367 => (if t367 = true then ((quad_count.f k a0_0 a0_1 a0_2 l0_3 l0_4 a1_0 a1_1 a1_2 a1_3).bind fun t368 => (some (t368, 0))) else (some (0, 81)))) = some (r1, r2) := h
  clear h
  replace H := Option.bind_eq_some_iff.mp H
  obtain ⟨t367, A30, H⟩ := H
  replace H : (if t367 = true then ((quad_count.f k a0_0 a0_1 a0_2 l0_3 l0_4 a1_0 a1_1 a1_2 a1_3).bind fun t368 => (some (t368, 0))) else (some (0, 81))) = some (r1, r2) := H
  have A3 := Aside0.mk A30
  clear A30
  by_cases c4 : t367 = true
  · subst c4
    have H1 : ((quad_count.f k a0_0 a0_1 a0_2 l0_3 l0_4 a1_0 a1_1 a1_2 a1_3).bind fun t368 => (some (t368, 0))) = some (r1, r2) := by rw [if_pos rfl] at H; exact H
    clear H
    have H := H1
    clear H1
    replace H := Option.bind_eq_some_iff.mp H
    obtain ⟨t368, A50, H⟩ := H
    replace H : (some (t368, 0)) = some (r1, r2) := H
    have A5 := Aside0.mk A50
    clear A50
    simp only [Option.some.injEq, Prod.mk.injEq] at H
    obtain ⟨rfl, rfl⟩ := H
    go_enter Try.func30, Try.ntmps30
    go_wp2_with (first | ((with_reducible refine gate_dst (N := 2) rfl ?_); refine box_event ?hg (N := 2) ?hd (cs := #[.int .u32 a0_0, .int .u32 a0_1, .int .i64 a0_2, .slice A0_3 l0_3.length c0_3, .slice A0_4 l0_4.length c0_4]) (t := 33) ?hr ?_; (case hd => rfl); (case hg => rfl); (case hr => first | (go_simp; done) | (go_simp; rfl)); intro gb365 hg w6 hbox hb; have n0_ := Aside0.mk (below_step (by repeat (first | (with_reducible first | exact HB.out | apply below_alloc | apply pw_below_drewN | apply below_drew1) | exact HB.out)) hb); have n1_ := Aside0.mk (hbox); have n2_ := Aside0.mk ((by rw [hg]; exact (below_size (by repeat (first | (with_reducible first | exact HB.out | apply below_alloc | apply pw_below_drewN | apply below_drew1) | exact HB.out))) : w.heap.size ≤ gb365)); have n3_ := Aside0.mk ((by rw [hg]; exact (below_size (by repeat (first | (with_reducible first | exact HB.out | apply below_alloc | apply pw_below_drewN | apply below_drew1) | exact HB.out))) : w.heap.size ≤ gb365)); clear HB; have HB := n0_; have BK365 := n1_; have GW365 := n2_; have GE365 := n3_; clear n0_ n1_ n2_ n3_; clear hb hbox hg) | ((with_reducible refine gate_dst (N := 3) rfl ?_); refine box_event ?hg (N := 3) ?hd (cs := #[.int .u32 a1_0, .int .u32 a1_1, .int .u32 a1_2, .int .u32 a1_3]) (t := 53) ?hr ?_; (case hd => rfl); (case hg => rfl); (case hr => first | (go_simp; done) | (go_simp; rfl)); intro gb366 hg w7 hbox hb; have n0_ := Aside0.mk (blk_below (g := gb365) (o := .cells #[.int .u32 a0_0, .int .u32 a0_1, .int .i64 a0_2, .slice A0_3 l0_3.length c0_3, .slice A0_4 l0_4.length c0_4] 33 (0, 0)) (by (with_reducible repeat (first | refine blk_drewN ?_ _ | refine blk_drew ?_ | refine blk_alloc ?_ _)); exact BK365.out) hb); have n1_ := Aside0.mk (below_step (by repeat (first | (with_reducible first | exact HB.out | apply below_alloc | apply pw_below_drewN | apply below_drew1 | refine below_set ?_ GE365.out) | exact HB.out)) hb); have n2_ := Aside0.mk (hbox); have n3_ := Aside0.mk ((by rw [hg]; exact (below_size (by repeat (first | (with_reducible first | exact HB.out | apply below_alloc | apply pw_below_drewN | apply below_drew1 | refine below_set ?_ GE365.out) | exact HB.out))) : w.heap.size ≤ gb366)); have n4_ := Aside0.mk ((by rw [hg]; exact (below_size (by repeat (first | (with_reducible first | exact HB.out | apply below_alloc | apply pw_below_drewN | apply below_drew1 | refine below_set ?_ GE365.out) | exact HB.out))) : w.heap.size ≤ gb366)); have n5_ := Aside0.mk ((by rw [hg]; exact Nat.ne_of_lt (blk_lt (g := gb365) (o := .cells #[.int .u32 a0_0, .int .u32 a0_1, .int .i64 a0_2, .slice A0_3 l0_3.length c0_3, .slice A0_4 l0_4.length c0_4] 33 (0, 0)) (by (with_reducible repeat (first | refine blk_drewN ?_ _ | refine blk_drew ?_ | refine blk_alloc ?_ _)); exact BK365.out)) : gb365 ≠ gb366)); have n6_ := Aside0.mk ((by rw [hg]; exact Nat.ne_of_gt (blk_lt (g := gb365) (o := .cells #[.int .u32 a0_0, .int .u32 a0_1, .int .i64 a0_2, .slice A0_3 l0_3.length c0_3, .slice A0_4 l0_4.length c0_4] 33 (0, 0)) (by (with_reducible repeat (first | refine blk_drewN ?_ _ | refine blk_drew ?_ | refine blk_alloc ?_ _)); exact BK365.out)) : gb366 ≠ gb365)); clear BK365; clear HB; have BK365 := n0_; have HB := n1_; have BK366 := n2_; have GW366 := n3_; have GE366 := n4_; have NB365_366 := n5_; have NB366_365 := n6_; clear n0_ n1_ n2_ n3_ n4_ n5_ n6_; clear hb hbox hg; have hnb8 := NB366_365.out; have hnc8 := NB365_366.out; have hcz9_0 : w7.cell? ⟨gb366, 0, none⟩ = some (.int .u32 a1_0) := (blk_cell BK366.out 0).trans rfl; have hcz9_1 : w7.cell? ⟨gb366, 1, none⟩ = some (.int .u32 a1_1) := (blk_cell BK366.out 1).trans rfl; have hcz9_2 : w7.cell? ⟨gb366, 2, none⟩ = some (.int .u32 a1_2) := (blk_cell BK366.out 2).trans rfl; have hcz9_3 : w7.cell? ⟨gb366, 3, none⟩ = some (.int .u32 a1_3) := (blk_cell BK366.out 3).trans rfl; have hfz9_0 := blk_frozen BK366.out 0; have hfz9_1 := blk_frozen BK366.out 1; have hfz9_2 := blk_frozen BK366.out 2; have hfz9_3 := blk_frozen BK366.out 3) | ((with_reducible refine gate_callee (f := 31) rfl ?_); refine goesL_ (some 7) rfl rfl Try.func31 (by kernel_rfl) rfl #[.agg #[.int .u32 a1_0, .int .u32 a1_1, .int .u32 a1_2, .int .u32 a1_3]] rfl (by (try simp only [List.map_toArray, List.map_cons, List.map_nil]); first | done | rfl | (simp only [List.length_drop, List.length_take]; rfl)) ?_; (with_reducible refine (cell_RightBox.calls a1_0 a1_1 a1_2 a1_3 true _ A3.out).mono ?_); rintro e w10 ⟨rfl, hb⟩; refine ⟨_, rfl, ?_⟩; have n0_ := Aside0.mk (blk_below (g := gb365) (o := .cells #[.int .u32 a0_0, .int .u32 a0_1, .int .i64 a0_2, .slice A0_3 l0_3.length c0_3, .slice A0_4 l0_4.length c0_4] 33 (0, 0)) (by (with_reducible repeat (first | refine blk_drewN ?_ _ | refine blk_drew ?_ | refine blk_alloc ?_ _)); exact BK365.out) hb); have n1_ := Aside0.mk (blk_below (g := gb366) (o := .cells #[.int .u32 a1_0, .int .u32 a1_1, .int .u32 a1_2, .int .u32 a1_3] 53 (0, 0)) (by (with_reducible repeat (first | refine blk_drewN ?_ _ | refine blk_drew ?_ | refine blk_alloc ?_ _)); exact BK366.out) hb); have n2_ := Aside0.mk (below_step (by repeat (first | (with_reducible first | exact HB.out | apply below_alloc | apply pw_below_drewN | apply below_drew1 | refine below_set ?_ GE365.out | refine below_set ?_ GE366.out) | exact HB.out)) hb); clear BK365; clear BK366; clear HB; have BK365 := n0_; have BK366 := n1_; have HB := n2_; clear n0_ n1_ n2_; (try clear hb); (try clear hb2); (try clear hk); (try clear hi); have hcz11_0 : w10.cell? ⟨gb365, 0, none⟩ = some (.int .u32 a0_0) := (blk_cell BK365.out 0).trans rfl; have hcz11_1 : w10.cell? ⟨gb365, 1, none⟩ = some (.int .u32 a0_1) := (blk_cell BK365.out 1).trans rfl; have hcz11_2 : w10.cell? ⟨gb365, 2, none⟩ = some (.int .i64 a0_2) := (blk_cell BK365.out 2).trans rfl; have hcz11_3 : w10.cell? ⟨gb365, 3, none⟩ = some (.slice A0_3 l0_3.length c0_3) := (blk_cell BK365.out 3).trans rfl; have hcz11_4 : w10.cell? ⟨gb365, 4, none⟩ = some (.slice A0_4 l0_4.length c0_4) := (blk_cell BK365.out 4).trans rfl; have hfz11_0 := blk_frozen BK365.out 0; have hfz11_1 := blk_frozen BK365.out 1; have hfz11_2 := blk_frozen BK365.out 2; have hfz11_3 := blk_frozen BK365.out 3; have hfz11_4 := blk_frozen BK365.out 4; have hcz12_0 : w10.cell? ⟨gb366, 0, none⟩ = some (.int .u32 a1_0) := (blk_cell BK366.out 0).trans rfl; have hcz12_1 : w10.cell? ⟨gb366, 1, none⟩ = some (.int .u32 a1_1) := (blk_cell BK366.out 1).trans rfl; have hcz12_2 : w10.cell? ⟨gb366, 2, none⟩ = some (.int .u32 a1_2) := (blk_cell BK366.out 2).trans rfl; have hcz12_3 : w10.cell? ⟨gb366, 3, none⟩ = some (.int .u32 a1_3) := (blk_cell BK366.out 3).trans rfl; have hfz12_0 := blk_frozen BK366.out 0; have hfz12_1 := blk_frozen BK366.out 1; have hfz12_2 := blk_frozen BK366.out 2; have hfz12_3 := blk_frozen BK366.out 3) | ((with_reducible refine gate_callee (f := 53) rfl ?_); refine goesL_ (some 11) rfl rfl Try.func53 (by kernel_rfl) rfl #[.agg #[.int .u32 a0_0, .int .u32 a0_1, .int .i64 a0_2, .slice A0_3 l0_3.length c0_3, .slice A0_4 l0_4.length c0_4], .agg #[.int .u32 a1_0, .int .u32 a1_1, .int .u32 a1_2, .int .u32 a1_3]] rfl (by (try simp only [List.map_toArray, List.map_cons, List.map_nil]); first | done | rfl | (simp only [List.length_drop, List.length_take]; rfl)) ?_; (with_reducible refine (quad_count.calls k a0_0 a0_1 a0_2 _ _ l0_3 _ _ l0_4 a1_0 a1_1 a1_2 a1_3 t368 _ ?side1 ?side2 ?side3 ?side4 A5.out).mono ?_); (case side1 => repeat (first | exact (Kd.C_below HR0_3.out HB.out) | (with_reducible refine Kd.C_alloc ?_ _) | (with_reducible refine Kd.C_drewN ?_ _) | (with_reducible refine Kd.C_drew ?_))); (case side2 => exact HC0_3.out); (case side3 => repeat (first | exact (Kd.C_below HR0_4.out HB.out) | (with_reducible refine Kd.C_alloc ?_ _) | (with_reducible refine Kd.C_drewN ?_ _) | (with_reducible refine Kd.C_drew ?_))); (case side4 => exact HC0_4.out); rintro e w13 ⟨rfl, hb⟩; refine ⟨_, rfl, ?_⟩; have n0_ := Aside0.mk (blk_below (g := gb365) (o := .cells #[.int .u32 a0_0, .int .u32 a0_1, .int .i64 a0_2, .slice A0_3 l0_3.length c0_3, .slice A0_4 l0_4.length c0_4] 33 (0, 0)) (by (with_reducible repeat (first | refine blk_drewN ?_ _ | refine blk_drew ?_ | refine blk_alloc ?_ _)); exact BK365.out) hb); have n1_ := Aside0.mk (blk_below (g := gb366) (o := .cells #[.int .u32 a1_0, .int .u32 a1_1, .int .u32 a1_2, .int .u32 a1_3] 53 (0, 0)) (by (with_reducible repeat (first | refine blk_drewN ?_ _ | refine blk_drew ?_ | refine blk_alloc ?_ _)); exact BK366.out) hb); have n2_ := Aside0.mk (below_step (by repeat (first | (with_reducible first | exact HB.out | apply below_alloc | apply pw_below_drewN | apply below_drew1 | refine below_set ?_ GE365.out | refine below_set ?_ GE366.out) | exact HB.out)) hb); clear BK365; clear BK366; clear HB; have BK365 := n0_; have BK366 := n1_; have HB := n2_; clear n0_ n1_ n2_; (try clear hb); (try clear hb2); (try clear hk); (try clear hi)))
    go_ret2
    exact ⟨by first | rfl | (simp [errW_none, errW_some] <;> rfl) | (simp [*, errW_none, errW_some] <;> rfl), by repeat (first | (with_reducible first | exact HB.out | apply below_alloc | apply pw_below_drewN | apply below_drew1 | refine below_set ?_ GE365.out | refine below_set ?_ GE366.out) | exact HB.out)⟩
  · replace c4 := Bool.eq_false_iff.mpr c4
    subst c4
    have H1 : (some (0, 81)) = some (r1, r2) := by rw [if_neg (show ¬ (false = true) by decide)] at H; exact H
    clear H
    have H := H1
    clear H1
    simp only [Option.some.injEq, Prod.mk.injEq] at H
    obtain ⟨rfl, rfl⟩ := H
    go_enter Try.func30, Try.ntmps30
    go_wp2_with (first | ((with_reducible refine gate_dst (N := 2) rfl ?_); refine box_event ?hg (N := 2) ?hd (cs := #[.int .u32 a0_0, .int .u32 a0_1, .int .i64 a0_2, .slice A0_3 l0_3.length c0_3, .slice A0_4 l0_4.length c0_4]) (t := 33) ?hr ?_; (case hd => rfl); (case hg => rfl); (case hr => first | (go_simp; done) | (go_simp; rfl)); intro gb365 hg w14 hbox hb; have n0_ := Aside0.mk (below_step (by repeat (first | (with_reducible first | exact HB.out | apply below_alloc | apply pw_below_drewN | apply below_drew1) | exact HB.out)) hb); have n1_ := Aside0.mk (hbox); have n2_ := Aside0.mk ((by rw [hg]; exact (below_size (by repeat (first | (with_reducible first | exact HB.out | apply below_alloc | apply pw_below_drewN | apply below_drew1) | exact HB.out))) : w.heap.size ≤ gb365)); have n3_ := Aside0.mk ((by rw [hg]; exact (below_size (by repeat (first | (with_reducible first | exact HB.out | apply below_alloc | apply pw_below_drewN | apply below_drew1) | exact HB.out))) : w.heap.size ≤ gb365)); clear HB; have HB := n0_; have BK365 := n1_; have GW365 := n2_; have GE365 := n3_; clear n0_ n1_ n2_ n3_; clear hb hbox hg) | ((with_reducible refine gate_dst (N := 3) rfl ?_); refine box_event ?hg (N := 3) ?hd (cs := #[.int .u32 a1_0, .int .u32 a1_1, .int .u32 a1_2, .int .u32 a1_3]) (t := 53) ?hr ?_; (case hd => rfl); (case hg => rfl); (case hr => first | (go_simp; done) | (go_simp; rfl)); intro gb366 hg w15 hbox hb; have n0_ := Aside0.mk (blk_below (g := gb365) (o := .cells #[.int .u32 a0_0, .int .u32 a0_1, .int .i64 a0_2, .slice A0_3 l0_3.length c0_3, .slice A0_4 l0_4.length c0_4] 33 (0, 0)) (by (with_reducible repeat (first | refine blk_drewN ?_ _ | refine blk_drew ?_ | refine blk_alloc ?_ _)); exact BK365.out) hb); have n1_ := Aside0.mk (below_step (by repeat (first | (with_reducible first | exact HB.out | apply below_alloc | apply pw_below_drewN | apply below_drew1 | refine below_set ?_ GE365.out) | exact HB.out)) hb); have n2_ := Aside0.mk (hbox); have n3_ := Aside0.mk ((by rw [hg]; exact (below_size (by repeat (first | (with_reducible first | exact HB.out | apply below_alloc | apply pw_below_drewN | apply below_drew1 | refine below_set ?_ GE365.out) | exact HB.out))) : w.heap.size ≤ gb366)); have n4_ := Aside0.mk ((by rw [hg]; exact (below_size (by repeat (first | (with_reducible first | exact HB.out | apply below_alloc | apply pw_below_drewN | apply below_drew1 | refine below_set ?_ GE365.out) | exact HB.out))) : w.heap.size ≤ gb366)); have n5_ := Aside0.mk ((by rw [hg]; exact Nat.ne_of_lt (blk_lt (g := gb365) (o := .cells #[.int .u32 a0_0, .int .u32 a0_1, .int .i64 a0_2, .slice A0_3 l0_3.length c0_3, .slice A0_4 l0_4.length c0_4] 33 (0, 0)) (by (with_reducible repeat (first | refine blk_drewN ?_ _ | refine blk_drew ?_ | refine blk_alloc ?_ _)); exact BK365.out)) : gb365 ≠ gb366)); have n6_ := Aside0.mk ((by rw [hg]; exact Nat.ne_of_gt (blk_lt (g := gb365) (o := .cells #[.int .u32 a0_0, .int .u32 a0_1, .int .i64 a0_2, .slice A0_3 l0_3.length c0_3, .slice A0_4 l0_4.length c0_4] 33 (0, 0)) (by (with_reducible repeat (first | refine blk_drewN ?_ _ | refine blk_drew ?_ | refine blk_alloc ?_ _)); exact BK365.out)) : gb366 ≠ gb365)); clear BK365; clear HB; have BK365 := n0_; have HB := n1_; have BK366 := n2_; have GW366 := n3_; have GE366 := n4_; have NB365_366 := n5_; have NB366_365 := n6_; clear n0_ n1_ n2_ n3_ n4_ n5_ n6_; clear hb hbox hg; have hnb16 := NB366_365.out; have hnc16 := NB365_366.out; have hcz17_0 : w15.cell? ⟨gb366, 0, none⟩ = some (.int .u32 a1_0) := (blk_cell BK366.out 0).trans rfl; have hcz17_1 : w15.cell? ⟨gb366, 1, none⟩ = some (.int .u32 a1_1) := (blk_cell BK366.out 1).trans rfl; have hcz17_2 : w15.cell? ⟨gb366, 2, none⟩ = some (.int .u32 a1_2) := (blk_cell BK366.out 2).trans rfl; have hcz17_3 : w15.cell? ⟨gb366, 3, none⟩ = some (.int .u32 a1_3) := (blk_cell BK366.out 3).trans rfl; have hfz17_0 := blk_frozen BK366.out 0; have hfz17_1 := blk_frozen BK366.out 1; have hfz17_2 := blk_frozen BK366.out 2; have hfz17_3 := blk_frozen BK366.out 3) | ((with_reducible refine gate_callee (f := 31) rfl ?_); refine goesL_ (some 7) rfl rfl Try.func31 (by kernel_rfl) rfl #[.agg #[.int .u32 a1_0, .int .u32 a1_1, .int .u32 a1_2, .int .u32 a1_3]] rfl (by (try simp only [List.map_toArray, List.map_cons, List.map_nil]); first | done | rfl | (simp only [List.length_drop, List.length_take]; rfl)) ?_; (with_reducible refine (cell_RightBox.calls a1_0 a1_1 a1_2 a1_3 false _ A3.out).mono ?_); rintro e w18 ⟨rfl, hb⟩; refine ⟨_, rfl, ?_⟩; have n0_ := Aside0.mk (blk_below (g := gb365) (o := .cells #[.int .u32 a0_0, .int .u32 a0_1, .int .i64 a0_2, .slice A0_3 l0_3.length c0_3, .slice A0_4 l0_4.length c0_4] 33 (0, 0)) (by (with_reducible repeat (first | refine blk_drewN ?_ _ | refine blk_drew ?_ | refine blk_alloc ?_ _)); exact BK365.out) hb); have n1_ := Aside0.mk (blk_below (g := gb366) (o := .cells #[.int .u32 a1_0, .int .u32 a1_1, .int .u32 a1_2, .int .u32 a1_3] 53 (0, 0)) (by (with_reducible repeat (first | refine blk_drewN ?_ _ | refine blk_drew ?_ | refine blk_alloc ?_ _)); exact BK366.out) hb); have n2_ := Aside0.mk (below_step (by repeat (first | (with_reducible first | exact HB.out | apply below_alloc | apply pw_below_drewN | apply below_drew1 | refine below_set ?_ GE365.out | refine below_set ?_ GE366.out) | exact HB.out)) hb); clear BK365; clear BK366; clear HB; have BK365 := n0_; have BK366 := n1_; have HB := n2_; clear n0_ n1_ n2_; (try clear hb); (try clear hb2); (try clear hk); (try clear hi)))
    go_ret2
    exact ⟨by first | rfl | (simp [errW_none, errW_some] <;> rfl) | (simp [*, errW_none, errW_some] <;> rfl), by repeat (first | (with_reducible first | exact HB.out | apply below_alloc | apply pw_below_drewN | apply below_drew1 | refine below_set ?_ GE365.out | refine below_set ?_ GE366.out) | exact HB.out)⟩

end Go.Proofs.Ytojmfbdioaocpaa.P

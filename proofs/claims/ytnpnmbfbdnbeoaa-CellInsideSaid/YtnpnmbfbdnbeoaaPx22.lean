-- Laid by a program of this session: the walk of functions of the translation, for this claim.
import Derived.Test.YtnpnmbfbdnbeoaaPx0
import Derived.Test.YtnpnmbfbdnbeoaaPx2
import Derived.Test.YtnpnmbfbdnbeoaaPx4
import Derived.Test.YtnpnmbfbdnbeoaaPx17
import Derived.Test.YtnpnmbfbdnbeoaaPx19
namespace Go.Proofs.Ytnpnmbfbdnbeoaa.P
open Go.RowKit Go.Proofs.YtnpnmbfbdnbeoaaOwn Go.Proofs.YtnpnmbfbdnbeoaaW.PrintWords Go.Proofs.YtnpnmbfbdnbeoaaW.PrintLast Go.Proofs.YtnpnmbfbdnbeoaaW.PrintMore
attribute [local go_sem] max2_int min2_int max_two min_two max_three min_three max_four min_four   -- for this text's walks alone
set_option linter.unusedVariables false
set_option linter.unusedSimpArgs false

/-! ### sphragislaw08_CellInside: function 11 -/
def sphragislaw08_CellInside.j0 : Nat → Int → Int → Bool → Bool → Int → Int → Int → Int → Int → Int → Int → Option (Bool)
  | 0, _, _, _, _, _, _, _, _, _, _, _ => none
  | k + 1, x2, x3, x9, x32, x318000, x318001, x318002, x319000, x319001, x319002, x319003 => if x32 = true then (some false) else (if x9 = true then ((cell_Touches.f x318000 x318001 x318002 x319000 x319001 x319002 x319003).bind fun t324 => (if t324 = true then (some true) else ((cell_Has.f x318000 x318001 x318002 x2 x3).bind fun t325 => (if t325 = true then ((cell_In.f x319000 x319001 x319002 x319003 x2 x3).bind fun t326 => (some (!t326))) else (some true))))) else (some false))
def sphragislaw08_CellInside.f (k : Nat) (a0_0 : Int) (a0_1 : Int) (a0_2 : Int) (a1_0 : Int) (a1_1 : Int) (a1_2 : Int) (a1_3 : Int) (a2 : Int) (a3 : Int) : Option (Bool) := (sphragislaw08_shown.f k).bind fun t319 => ((cell_Within.f a0_0 a0_1 a0_2 a1_0 a1_1 a1_2 a1_3).bind fun t320 => (if t320 = true then ((cell_Touches.f a0_0 a0_1 a0_2 a1_0 a1_1 a1_2 a1_3).bind fun t321 => (if t321 = true then ((cell_Has.f a0_0 a0_1 a0_2 a2 a3).bind fun t322 => (if t322 = true then ((cell_In.f a1_0 a1_1 a1_2 a1_3 a2 a3).bind fun t323 => (sphragislaw08_CellInside.j0 k a2 a3 t319 (!t323) a0_0 a0_1 a0_2 a1_0 a1_1 a1_2 a1_3)) else (sphragislaw08_CellInside.j0 k a2 a3 t319 false a0_0 a0_1 a0_2 a1_0 a1_1 a1_2 a1_3))) else (sphragislaw08_CellInside.j0 k a2 a3 t319 true a0_0 a0_1 a0_2 a1_0 a1_1 a1_2 a1_3))) else (sphragislaw08_CellInside.j0 k a2 a3 t319 false a0_0 a0_1 a0_2 a1_0 a1_1 a1_2 a1_3)))
theorem sphragislaw08_CellInside.mono_l : ∀ k, (∀ y0 y1 y2 y3 y4 y5 y6 y7 y8 y9 y10, LeO (sphragislaw08_CellInside.j0 k y0 y1 y2 y3 y4 y5 y6 y7 y8 y9 y10) (sphragislaw08_CellInside.j0 (k + 1) y0 y1 y2 y3 y4 y5 y6 y7 y8 y9 y10))
  | 0 => fun _ _ _ _ _ _ _ _ _ _ _ r h => by simp [sphragislaw08_CellInside.j0] at h
  | k + 1 => by
    have ih0 := sphragislaw08_CellInside.mono_l k
    · intro y0 y1 y2 y3 y4 y5 y6 y7 y8 y9 y10
      unfold sphragislaw08_CellInside.j0
      repeat' first
      | (with_reducible exact ih0 _ _ _ _ _ _ _ _ _ _ _)
      | (with_reducible exact sphragislaw08_shown.mono _)
      | (with_reducible exact LeO.refl _)
      | (with_reducible exact LeO.none _)
      | (with_reducible refine LeO.ite ?_ ?_)
      | (with_reducible refine LeO.bind ?_ (fun _ => ?_))
      | exact ih0 _ _ _ _ _ _ _ _ _ _ _
      | exact sphragislaw08_shown.mono _
      | exact LeO.none _
      | refine LeO.ite ?_ ?_
      | refine LeO.bind ?_ (fun _ => ?_)
theorem sphragislaw08_CellInside.mono : ∀ a0 a1 a2 a3 a4 a5 a6 a7 a8 k, LeO (sphragislaw08_CellInside.f k a0 a1 a2 a3 a4 a5 a6 a7 a8) (sphragislaw08_CellInside.f (k + 1) a0 a1 a2 a3 a4 a5 a6 a7 a8) := by
  intro a0 a1 a2 a3 a4 a5 a6 a7 a8 k
  have ih0 := sphragislaw08_CellInside.mono_l k
  unfold sphragislaw08_CellInside.f
  repeat' first
      | (with_reducible exact ih0 _ _ _ _ _ _ _ _ _ _ _)
      | (with_reducible exact sphragislaw08_shown.mono _)
      | (with_reducible exact LeO.refl _)
      | (with_reducible exact LeO.none _)
      | (with_reducible refine LeO.ite ?_ ?_)
      | (with_reducible refine LeO.bind ?_ (fun _ => ?_))
      | exact ih0 _ _ _ _ _ _ _ _ _ _ _
      | exact sphragislaw08_shown.mono _
      | exact LeO.none _
      | refine LeO.ite ?_ ?_
      | refine LeO.bind ?_ (fun _ => ?_)
set_option maxHeartbeats 8000000 in
set_option maxRecDepth 100000 in
theorem sphragislaw08_CellInside.calls (k : Nat) (a0_0 : Int) (a0_1 : Int) (a0_2 : Int) (a1_0 : Int) (a1_1 : Int) (a1_2 : Int) (a1_3 : Int) (a2 : Int) (a3 : Int) (r : Bool) (w : World) (h : sphragislaw08_CellInside.f k a0_0 a0_1 a0_2 a1_0 a1_1 a1_2 a1_3 a2 a3 = some r) :
    Calls Try.prog 11 #[.agg #[.int .u32 a0_0, .int .u32 a0_1, .int .i64 a0_2], .agg #[.int .u32 a1_0, .int .u32 a1_1, .int .u32 a1_2, .int .u32 a1_3], .int .u32 a2, .int .u32 a3] w fun e w' => e = .returned (.bool r) ∧ Below w.heap.size w w' := by
  have hu24 := Try.underlying24
  have hu26 := Try.underlying26
  have HB := Aside0.mk (Below.refl w.heap.size w)
  have H : ((sphragislaw08_shown.f k).bind fun t319 => ((cell_Within.f a0_0 a0_1 a0_2 a1_0 a1_1 a1_2 a1_3).bind fun t320 => (if t320 = true then ((cell_Touches.f a0_0 a0_1 a0_2 a1_0 a1_1 a1_2 a1_3).bind fun t321 => (if t321 = true then ((cell_Has.f a0_0 a0_1 a0_2 a2 a3).bind fun t322 => (if t322 = true then ((cell_In.f a1_0 a1_1 a1_2 a1_3 a2 a3).bind fun t323 => (sphragislaw08_CellInside.j0 k a2 a3 t319 (!t323) a0_0 a0_1 a0_2 a1_0 a1_1 a1_2 a1_3)) else (sphragislaw08_CellInside.j0 k a2 a3 t319 false a0_0 a0_1 a0_2 a1_0 a1_1 a1_2 a1_3))) else (sphragislaw08_CellInside.j0 k a2 a3 t319 true a0_0 a0_1 a0_2 a1_0 a1_1 a1_2 a1_3))) else (sphragislaw08_CellInside.j0 k a2 a3 t319 false a0_0 a0_1 a0_2 a1_0 a1_1 a1_2 a1_3)))) = some r := h
  clear h
  replace H := Option.bind_eq_some_iff.mp H
  obtain ⟨t319, A50, H⟩ := H
  replace H : ((cell_Within.f a0_0 a0_1 a0_2 a1_0 a1_1 a1_2 a1_3).bind fun t320 => (if t320 = true then ((cell_Touches.f a0_0 a0_1 a0_2 a1_0 a1_1 a1_2 a1_3).bind fun t321 => (if t321 = true then ((cell_Has.f a0_0 a0_1 a0_2 a2 a3).bind fun t322 => (if t322 = true then ((cell_In.f a1_0 a1_1 a1_2 a1_3 a2 a3).bind fun t323 => (sphragislaw08_CellInside.j0 k a2 a3 t319 (!t323) a0_0 a0_1 a0_2 a1_0 a1_1 a1_2 a1_3)) else (sphragislaw08_CellInside.j0 k a2 a3 t319 false a0_0 a0_1 a0_2 a1_0 a1_1 a1_2 a1_3))) else (sphragislaw08_CellInside.j0 k a2 a3 t319 true a0_0 a0_1 a0_2 a1_0 a1_1 a1_2 a1_3))) else (sphragislaw08_CellInside.j0 k a2 a3 t319 false a0_0 a0_1 a0_2 a1_0 a1_1 a1_2 a1_3))) = some r := H
  have A5 := Aside0.mk A50
  clear A50
  have HC6 := Aside0.mk H
  clear H
  go_enter Try.func11, Try.ntmps11
  go_upto_region 2 with (first | ((with_reducible refine gate_dst (N := 4) rfl ?_); refine box_event ?hg (N := 4) ?hd (cs := #[.int .u32 a0_0, .int .u32 a0_1, .int .i64 a0_2]) (t := 24) ?hr ?_; (case hd => rfl); (case hg => rfl); (case hr => first | (go_simp; done) | (go_simp; rfl)); intro gb317 hg w7 hbox hb; have n0_ := Aside0.mk (below_step (by repeat (first | (with_reducible first | exact HB.out | apply below_alloc | apply pw_below_drewN | apply below_drew1) | exact HB.out)) hb); have n1_ := Aside0.mk (hbox); have n2_ := Aside0.mk ((by rw [hg]; exact (below_size (by repeat (first | (with_reducible first | exact HB.out | apply below_alloc | apply pw_below_drewN | apply below_drew1) | exact HB.out))) : w.heap.size ≤ gb317)); have n3_ := Aside0.mk ((by rw [hg]; exact (below_size (by repeat (first | (with_reducible first | exact HB.out | apply below_alloc | apply pw_below_drewN | apply below_drew1) | exact HB.out))) : w.heap.size ≤ gb317)); clear HB; have HB := n0_; have BK317 := n1_; have GW317 := n2_; have GE317 := n3_; clear n0_ n1_ n2_ n3_; clear hb hbox hg) | ((with_reducible refine gate_dst (N := 5) rfl ?_); refine box_event ?hg (N := 5) ?hd (cs := #[.int .u32 a1_0, .int .u32 a1_1, .int .u32 a1_2, .int .u32 a1_3]) (t := 26) ?hr ?_; (case hd => rfl); (case hg => rfl); (case hr => first | (go_simp; done) | (go_simp; rfl)); intro gb318 hg w8 hbox hb; have n0_ := Aside0.mk (blk_below (g := gb317) (o := .cells #[.int .u32 a0_0, .int .u32 a0_1, .int .i64 a0_2] 24 (0, 0)) (by (with_reducible repeat (first | refine blk_drewN ?_ _ | refine blk_drew ?_ | refine blk_alloc ?_ _)); exact BK317.out) hb); have n1_ := Aside0.mk (below_step (by repeat (first | (with_reducible first | exact HB.out | apply below_alloc | apply pw_below_drewN | apply below_drew1 | refine below_set ?_ GE317.out) | exact HB.out)) hb); have n2_ := Aside0.mk (hbox); have n3_ := Aside0.mk ((by rw [hg]; exact (below_size (by repeat (first | (with_reducible first | exact HB.out | apply below_alloc | apply pw_below_drewN | apply below_drew1 | refine below_set ?_ GE317.out) | exact HB.out))) : w.heap.size ≤ gb318)); have n4_ := Aside0.mk ((by rw [hg]; exact (below_size (by repeat (first | (with_reducible first | exact HB.out | apply below_alloc | apply pw_below_drewN | apply below_drew1 | refine below_set ?_ GE317.out) | exact HB.out))) : w.heap.size ≤ gb318)); have n5_ := Aside0.mk ((by rw [hg]; exact Nat.ne_of_lt (blk_lt (g := gb317) (o := .cells #[.int .u32 a0_0, .int .u32 a0_1, .int .i64 a0_2] 24 (0, 0)) (by (with_reducible repeat (first | refine blk_drewN ?_ _ | refine blk_drew ?_ | refine blk_alloc ?_ _)); exact BK317.out)) : gb317 ≠ gb318)); have n6_ := Aside0.mk ((by rw [hg]; exact Nat.ne_of_gt (blk_lt (g := gb317) (o := .cells #[.int .u32 a0_0, .int .u32 a0_1, .int .i64 a0_2] 24 (0, 0)) (by (with_reducible repeat (first | refine blk_drewN ?_ _ | refine blk_drew ?_ | refine blk_alloc ?_ _)); exact BK317.out)) : gb318 ≠ gb317)); clear BK317; clear HB; have BK317 := n0_; have HB := n1_; have BK318 := n2_; have GW318 := n3_; have GE318 := n4_; have NB317_318 := n5_; have NB318_317 := n6_; clear n0_ n1_ n2_ n3_ n4_ n5_ n6_; clear hb hbox hg) | ((with_reducible refine gate_callee (f := 12) rfl ?_); refine goesL_ (some 10) rfl rfl Try.func12 (by kernel_rfl) rfl #[] rfl (by (try simp only [List.map_toArray, List.map_cons, List.map_nil]); first | done | rfl | (simp only [List.length_drop, List.length_take]; rfl)) ?_; (with_reducible refine (sphragislaw08_shown.calls k  t319 _ A5.out).mono ?_); rintro e w9 ⟨rfl, hb⟩; refine ⟨_, rfl, ?_⟩; have n0_ := Aside0.mk (blk_below (g := gb317) (o := .cells #[.int .u32 a0_0, .int .u32 a0_1, .int .i64 a0_2] 24 (0, 0)) (by (with_reducible repeat (first | refine blk_drewN ?_ _ | refine blk_drew ?_ | refine blk_alloc ?_ _)); exact BK317.out) hb); have n1_ := Aside0.mk (blk_below (g := gb318) (o := .cells #[.int .u32 a1_0, .int .u32 a1_1, .int .u32 a1_2, .int .u32 a1_3] 26 (0, 0)) (by (with_reducible repeat (first | refine blk_drewN ?_ _ | refine blk_drew ?_ | refine blk_alloc ?_ _)); exact BK318.out) hb); have n2_ := Aside0.mk (below_step (by repeat (first | (with_reducible first | exact HB.out | apply below_alloc | apply pw_below_drewN | apply below_drew1 | refine below_set ?_ GE317.out | refine below_set ?_ GE318.out) | exact HB.out)) hb); clear BK317; clear BK318; clear HB; have BK317 := n0_; have BK318 := n1_; have HB := n2_; clear n0_ n1_ n2_; (try clear hb); (try clear hb2); (try clear hk); (try clear hi)))
  (try simp only [Act.put, List.setIfInBounds_toArray, List.set_cons_zero, List.set_cons_succ])
  go_cut [32] (fun v32 wc => ∃ (kq : Nat) (x32_5 : Bool), v32 = .bool x32_5 ∧ Aside0 (sphragislaw08_CellInside.j0 kq a2 a3 t319 x32_5 a0_0 a0_1 a0_2 a1_0 a1_1 a1_2 a1_3 = some r) ∧ Aside0 (kq ≤ k) ∧ Aside0 (wc.heap[gb317]? = some (.cells #[.int .u32 a0_0, .int .u32 a0_1, .int .i64 a0_2] 24 (0, 0))) ∧ Aside0 (wc.heap[gb318]? = some (.cells #[.int .u32 a1_0, .int .u32 a1_1, .int .u32 a1_2, .int .u32 a1_3] 26 (0, 0))) ∧ Aside0 (Below w.heap.size w wc))
  case first =>
    have H := HC6.out
    clear HC6
    replace H := Option.bind_eq_some_iff.mp H
    obtain ⟨t320, A100, H⟩ := H
    replace H : (if t320 = true then ((cell_Touches.f a0_0 a0_1 a0_2 a1_0 a1_1 a1_2 a1_3).bind fun t321 => (if t321 = true then ((cell_Has.f a0_0 a0_1 a0_2 a2 a3).bind fun t322 => (if t322 = true then ((cell_In.f a1_0 a1_1 a1_2 a1_3 a2 a3).bind fun t323 => (sphragislaw08_CellInside.j0 k a2 a3 t319 (!t323) a0_0 a0_1 a0_2 a1_0 a1_1 a1_2 a1_3)) else (sphragislaw08_CellInside.j0 k a2 a3 t319 false a0_0 a0_1 a0_2 a1_0 a1_1 a1_2 a1_3))) else (sphragislaw08_CellInside.j0 k a2 a3 t319 true a0_0 a0_1 a0_2 a1_0 a1_1 a1_2 a1_3))) else (sphragislaw08_CellInside.j0 k a2 a3 t319 false a0_0 a0_1 a0_2 a1_0 a1_1 a1_2 a1_3)) = some r := H
    have A10 := Aside0.mk A100
    clear A100
    by_cases c11 : t320 = true
    · subst c11
      have H1 : ((cell_Touches.f a0_0 a0_1 a0_2 a1_0 a1_1 a1_2 a1_3).bind fun t321 => (if t321 = true then ((cell_Has.f a0_0 a0_1 a0_2 a2 a3).bind fun t322 => (if t322 = true then ((cell_In.f a1_0 a1_1 a1_2 a1_3 a2 a3).bind fun t323 => (sphragislaw08_CellInside.j0 k a2 a3 t319 (!t323) a0_0 a0_1 a0_2 a1_0 a1_1 a1_2 a1_3)) else (sphragislaw08_CellInside.j0 k a2 a3 t319 false a0_0 a0_1 a0_2 a1_0 a1_1 a1_2 a1_3))) else (sphragislaw08_CellInside.j0 k a2 a3 t319 true a0_0 a0_1 a0_2 a1_0 a1_1 a1_2 a1_3))) = some r := by rw [if_pos rfl] at H; exact H
      clear H
      have H := H1
      clear H1
      replace H := Option.bind_eq_some_iff.mp H
      obtain ⟨t321, A120, H⟩ := H
      replace H : (if t321 = true then ((cell_Has.f a0_0 a0_1 a0_2 a2 a3).bind fun t322 => (if t322 = true then ((cell_In.f a1_0 a1_1 a1_2 a1_3 a2 a3).bind fun t323 => (sphragislaw08_CellInside.j0 k a2 a3 t319 (!t323) a0_0 a0_1 a0_2 a1_0 a1_1 a1_2 a1_3)) else (sphragislaw08_CellInside.j0 k a2 a3 t319 false a0_0 a0_1 a0_2 a1_0 a1_1 a1_2 a1_3))) else (sphragislaw08_CellInside.j0 k a2 a3 t319 true a0_0 a0_1 a0_2 a1_0 a1_1 a1_2 a1_3)) = some r := H
      have A12 := Aside0.mk A120
      clear A120
      by_cases c13 : t321 = true
      · subst c13
        have H1 : ((cell_Has.f a0_0 a0_1 a0_2 a2 a3).bind fun t322 => (if t322 = true then ((cell_In.f a1_0 a1_1 a1_2 a1_3 a2 a3).bind fun t323 => (sphragislaw08_CellInside.j0 k a2 a3 t319 (!t323) a0_0 a0_1 a0_2 a1_0 a1_1 a1_2 a1_3)) else (sphragislaw08_CellInside.j0 k a2 a3 t319 false a0_0 a0_1 a0_2 a1_0 a1_1 a1_2 a1_3))) = some r := by rw [if_pos rfl] at H; exact H
        clear H
        have H := H1
        clear H1
        replace H := Option.bind_eq_some_iff.mp H
        obtain ⟨t322, A140, H⟩ := H
        replace H : (if t322 = true then ((cell_In.f a1_0 a1_1 a1_2 a1_3 a2 a3).bind fun t323 => (sphragislaw08_CellInside.j0 k a2 a3 t319 (!t323) a0_0 a0_1 a0_2 a1_0 a1_1 a1_2 a1_3)) else (sphragislaw08_CellInside.j0 k a2 a3 t319 false a0_0 a0_1 a0_2 a1_0 a1_1 a1_2 a1_3)) = some r := H
        have A14 := Aside0.mk A140
        clear A140
        by_cases c15 : t322 = true
        · subst c15
          have H1 : ((cell_In.f a1_0 a1_1 a1_2 a1_3 a2 a3).bind fun t323 => (sphragislaw08_CellInside.j0 k a2 a3 t319 (!t323) a0_0 a0_1 a0_2 a1_0 a1_1 a1_2 a1_3)) = some r := by rw [if_pos rfl] at H; exact H
          clear H
          have H := H1
          clear H1
          replace H := Option.bind_eq_some_iff.mp H
          obtain ⟨t323, A160, H⟩ := H
          replace H : (sphragislaw08_CellInside.j0 k a2 a3 t319 (!t323) a0_0 a0_1 a0_2 a1_0 a1_1 a1_2 a1_3) = some r := H
          have A16 := Aside0.mk A160
          clear A160
          have H' := Aside0.mk H
          clear H
          have hnb17 := NB317_318.out
          have hnc17 := NB318_317.out
          have hcz18_0 : w9.cell? ⟨gb317, 0, none⟩ = some (.int .u32 a0_0) := (blk_cell BK317.out 0).trans rfl
          have hcz18_1 : w9.cell? ⟨gb317, 1, none⟩ = some (.int .u32 a0_1) := (blk_cell BK317.out 1).trans rfl
          have hcz18_2 : w9.cell? ⟨gb317, 2, none⟩ = some (.int .i64 a0_2) := (blk_cell BK317.out 2).trans rfl
          have hfz18_0 := blk_frozen BK317.out 0
          have hfz18_1 := blk_frozen BK317.out 1
          have hfz18_2 := blk_frozen BK317.out 2
          have hcz19_0 : w9.cell? ⟨gb318, 0, none⟩ = some (.int .u32 a1_0) := (blk_cell BK318.out 0).trans rfl
          have hcz19_1 : w9.cell? ⟨gb318, 1, none⟩ = some (.int .u32 a1_1) := (blk_cell BK318.out 1).trans rfl
          have hcz19_2 : w9.cell? ⟨gb318, 2, none⟩ = some (.int .u32 a1_2) := (blk_cell BK318.out 2).trans rfl
          have hcz19_3 : w9.cell? ⟨gb318, 3, none⟩ = some (.int .u32 a1_3) := (blk_cell BK318.out 3).trans rfl
          have hfz19_0 := blk_frozen BK318.out 0
          have hfz19_1 := blk_frozen BK318.out 1
          have hfz19_2 := blk_frozen BK318.out 2
          have hfz19_3 := blk_frozen BK318.out 3
          go_wp2_with (first | ((with_reducible refine gate_callee (f := 33) rfl ?_); refine goesL_ (some 13) rfl rfl Try.func33 (by kernel_rfl) rfl #[.agg #[.int .u32 a0_0, .int .u32 a0_1, .int .i64 a0_2], .agg #[.int .u32 a1_0, .int .u32 a1_1, .int .u32 a1_2, .int .u32 a1_3]] rfl (by (try simp only [List.map_toArray, List.map_cons, List.map_nil]); first | done | rfl | (simp only [List.length_drop, List.length_take]; rfl)) ?_; (with_reducible refine (cell_Within.calls a0_0 a0_1 a0_2 a1_0 a1_1 a1_2 a1_3 true _ A10.out).mono ?_); rintro e w20 ⟨rfl, hb⟩; refine ⟨_, rfl, ?_⟩; have n0_ := Aside0.mk (blk_below (g := gb317) (o := .cells #[.int .u32 a0_0, .int .u32 a0_1, .int .i64 a0_2] 24 (0, 0)) (by (with_reducible repeat (first | refine blk_drewN ?_ _ | refine blk_drew ?_ | refine blk_alloc ?_ _)); exact BK317.out) hb); have n1_ := Aside0.mk (blk_below (g := gb318) (o := .cells #[.int .u32 a1_0, .int .u32 a1_1, .int .u32 a1_2, .int .u32 a1_3] 26 (0, 0)) (by (with_reducible repeat (first | refine blk_drewN ?_ _ | refine blk_drew ?_ | refine blk_alloc ?_ _)); exact BK318.out) hb); have n2_ := Aside0.mk (below_step (by repeat (first | (with_reducible first | exact HB.out | apply below_alloc | apply pw_below_drewN | apply below_drew1 | refine below_set ?_ GE317.out | refine below_set ?_ GE318.out) | exact HB.out)) hb); clear BK317; clear BK318; clear HB; have BK317 := n0_; have BK318 := n1_; have HB := n2_; clear n0_ n1_ n2_; (try clear hb); (try clear hb2); (try clear hk); (try clear hi); have hcz21_0 : w20.cell? ⟨gb317, 0, none⟩ = some (.int .u32 a0_0) := (blk_cell BK317.out 0).trans rfl; have hcz21_1 : w20.cell? ⟨gb317, 1, none⟩ = some (.int .u32 a0_1) := (blk_cell BK317.out 1).trans rfl; have hcz21_2 : w20.cell? ⟨gb317, 2, none⟩ = some (.int .i64 a0_2) := (blk_cell BK317.out 2).trans rfl; have hfz21_0 := blk_frozen BK317.out 0; have hfz21_1 := blk_frozen BK317.out 1; have hfz21_2 := blk_frozen BK317.out 2; have hcz22_0 : w20.cell? ⟨gb318, 0, none⟩ = some (.int .u32 a1_0) := (blk_cell BK318.out 0).trans rfl; have hcz22_1 : w20.cell? ⟨gb318, 1, none⟩ = some (.int .u32 a1_1) := (blk_cell BK318.out 1).trans rfl; have hcz22_2 : w20.cell? ⟨gb318, 2, none⟩ = some (.int .u32 a1_2) := (blk_cell BK318.out 2).trans rfl; have hcz22_3 : w20.cell? ⟨gb318, 3, none⟩ = some (.int .u32 a1_3) := (blk_cell BK318.out 3).trans rfl; have hfz22_0 := blk_frozen BK318.out 0; have hfz22_1 := blk_frozen BK318.out 1; have hfz22_2 := blk_frozen BK318.out 2; have hfz22_3 := blk_frozen BK318.out 3) | (go_at_call 31; (with_reducible refine (cell_Touches.calls a0_0 a0_1 a0_2 a1_0 a1_1 a1_2 a1_3 true _ A12.out).mono ?_); rintro e w23 ⟨rfl, hb⟩; have n0_ := Aside0.mk (blk_below (g := gb317) (o := .cells #[.int .u32 a0_0, .int .u32 a0_1, .int .i64 a0_2] 24 (0, 0)) (by (with_reducible repeat (first | refine blk_drewN ?_ _ | refine blk_drew ?_ | refine blk_alloc ?_ _)); exact BK317.out) hb); have n1_ := Aside0.mk (blk_below (g := gb318) (o := .cells #[.int .u32 a1_0, .int .u32 a1_1, .int .u32 a1_2, .int .u32 a1_3] 26 (0, 0)) (by (with_reducible repeat (first | refine blk_drewN ?_ _ | refine blk_drew ?_ | refine blk_alloc ?_ _)); exact BK318.out) hb); have n2_ := Aside0.mk (below_step (by repeat (first | (with_reducible first | exact HB.out | apply below_alloc | apply pw_below_drewN | apply below_drew1 | refine below_set ?_ GE317.out | refine below_set ?_ GE318.out) | exact HB.out)) hb); clear BK317; clear BK318; clear HB; have BK317 := n0_; have BK318 := n1_; have HB := n2_; clear n0_ n1_ n2_; (try clear hb); (try clear hb2); (try clear hk); (try clear hi); have hcz24_0 : w23.cell? ⟨gb317, 0, none⟩ = some (.int .u32 a0_0) := (blk_cell BK317.out 0).trans rfl; have hcz24_1 : w23.cell? ⟨gb317, 1, none⟩ = some (.int .u32 a0_1) := (blk_cell BK317.out 1).trans rfl; have hcz24_2 : w23.cell? ⟨gb317, 2, none⟩ = some (.int .i64 a0_2) := (blk_cell BK317.out 2).trans rfl; have hfz24_0 := blk_frozen BK317.out 0; have hfz24_1 := blk_frozen BK317.out 1; have hfz24_2 := blk_frozen BK317.out 2) | (go_at_call 17; (with_reducible refine (cell_Has.calls a0_0 a0_1 a0_2 a2 a3 true _ A14.out).mono ?_); rintro e w25 ⟨rfl, hb⟩; have n0_ := Aside0.mk (blk_below (g := gb317) (o := .cells #[.int .u32 a0_0, .int .u32 a0_1, .int .i64 a0_2] 24 (0, 0)) (by (with_reducible repeat (first | refine blk_drewN ?_ _ | refine blk_drew ?_ | refine blk_alloc ?_ _)); exact BK317.out) hb); have n1_ := Aside0.mk (blk_below (g := gb318) (o := .cells #[.int .u32 a1_0, .int .u32 a1_1, .int .u32 a1_2, .int .u32 a1_3] 26 (0, 0)) (by (with_reducible repeat (first | refine blk_drewN ?_ _ | refine blk_drew ?_ | refine blk_alloc ?_ _)); exact BK318.out) hb); have n2_ := Aside0.mk (below_step (by repeat (first | (with_reducible first | exact HB.out | apply below_alloc | apply pw_below_drewN | apply below_drew1 | refine below_set ?_ GE317.out | refine below_set ?_ GE318.out) | exact HB.out)) hb); clear BK317; clear BK318; clear HB; have BK317 := n0_; have BK318 := n1_; have HB := n2_; clear n0_ n1_ n2_; (try clear hb); (try clear hb2); (try clear hk); (try clear hi); have hcz26_0 : w25.cell? ⟨gb318, 0, none⟩ = some (.int .u32 a1_0) := (blk_cell BK318.out 0).trans rfl; have hcz26_1 : w25.cell? ⟨gb318, 1, none⟩ = some (.int .u32 a1_1) := (blk_cell BK318.out 1).trans rfl; have hcz26_2 : w25.cell? ⟨gb318, 2, none⟩ = some (.int .u32 a1_2) := (blk_cell BK318.out 2).trans rfl; have hcz26_3 : w25.cell? ⟨gb318, 3, none⟩ = some (.int .u32 a1_3) := (blk_cell BK318.out 3).trans rfl; have hfz26_0 := blk_frozen BK318.out 0; have hfz26_1 := blk_frozen BK318.out 1; have hfz26_2 := blk_frozen BK318.out 2; have hfz26_3 := blk_frozen BK318.out 3) | (go_at_call 19; (with_reducible refine (cell_In.calls a1_0 a1_1 a1_2 a1_3 a2 a3 t323 _ A16.out).mono ?_); rintro e w27 ⟨rfl, hb⟩; have n0_ := Aside0.mk (blk_below (g := gb317) (o := .cells #[.int .u32 a0_0, .int .u32 a0_1, .int .i64 a0_2] 24 (0, 0)) (by (with_reducible repeat (first | refine blk_drewN ?_ _ | refine blk_drew ?_ | refine blk_alloc ?_ _)); exact BK317.out) hb); have n1_ := Aside0.mk (blk_below (g := gb318) (o := .cells #[.int .u32 a1_0, .int .u32 a1_1, .int .u32 a1_2, .int .u32 a1_3] 26 (0, 0)) (by (with_reducible repeat (first | refine blk_drewN ?_ _ | refine blk_drew ?_ | refine blk_alloc ?_ _)); exact BK318.out) hb); have n2_ := Aside0.mk (below_step (by repeat (first | (with_reducible first | exact HB.out | apply below_alloc | apply pw_below_drewN | apply below_drew1 | refine below_set ?_ GE317.out | refine below_set ?_ GE318.out) | exact HB.out)) hb); clear BK317; clear BK318; clear HB; have BK317 := n0_; have BK318 := n1_; have HB := n2_; clear n0_ n1_ n2_; (try clear hb); (try clear hb2); (try clear hk); (try clear hi)))
          go_meet
          case rel => exact ⟨_, (!t323), (by first | rfl | (simp; done) | (simp [*]; done)), H', ⟨by first | omega | exact Nat.le_refl _⟩, ⟨by (with_reducible repeat (first | refine blk_drewN ?_ _ | refine blk_drew ?_ | refine blk_alloc ?_ _)); exact BK317.out⟩, ⟨by (with_reducible repeat (first | refine blk_drewN ?_ _ | refine blk_drew ?_ | refine blk_alloc ?_ _)); exact BK318.out⟩, ⟨by repeat (first | (with_reducible first | exact HB.out | apply below_alloc | apply pw_below_drewN | apply below_drew1 | refine below_set ?_ GE317.out | refine below_set ?_ GE318.out) | exact HB.out)⟩⟩
        · replace c15 := Bool.eq_false_iff.mpr c15
          subst c15
          have H1 : (sphragislaw08_CellInside.j0 k a2 a3 t319 false a0_0 a0_1 a0_2 a1_0 a1_1 a1_2 a1_3) = some r := by rw [if_neg (show ¬ (false = true) by decide)] at H; exact H
          clear H
          have H := H1
          clear H1
          have H' := Aside0.mk H
          clear H
          have hnb28 := NB317_318.out
          have hnc28 := NB318_317.out
          have hcz29_0 : w9.cell? ⟨gb317, 0, none⟩ = some (.int .u32 a0_0) := (blk_cell BK317.out 0).trans rfl
          have hcz29_1 : w9.cell? ⟨gb317, 1, none⟩ = some (.int .u32 a0_1) := (blk_cell BK317.out 1).trans rfl
          have hcz29_2 : w9.cell? ⟨gb317, 2, none⟩ = some (.int .i64 a0_2) := (blk_cell BK317.out 2).trans rfl
          have hfz29_0 := blk_frozen BK317.out 0
          have hfz29_1 := blk_frozen BK317.out 1
          have hfz29_2 := blk_frozen BK317.out 2
          have hcz30_0 : w9.cell? ⟨gb318, 0, none⟩ = some (.int .u32 a1_0) := (blk_cell BK318.out 0).trans rfl
          have hcz30_1 : w9.cell? ⟨gb318, 1, none⟩ = some (.int .u32 a1_1) := (blk_cell BK318.out 1).trans rfl
          have hcz30_2 : w9.cell? ⟨gb318, 2, none⟩ = some (.int .u32 a1_2) := (blk_cell BK318.out 2).trans rfl
          have hcz30_3 : w9.cell? ⟨gb318, 3, none⟩ = some (.int .u32 a1_3) := (blk_cell BK318.out 3).trans rfl
          have hfz30_0 := blk_frozen BK318.out 0
          have hfz30_1 := blk_frozen BK318.out 1
          have hfz30_2 := blk_frozen BK318.out 2
          have hfz30_3 := blk_frozen BK318.out 3
          go_wp2_with (first | ((with_reducible refine gate_callee (f := 33) rfl ?_); refine goesL_ (some 13) rfl rfl Try.func33 (by kernel_rfl) rfl #[.agg #[.int .u32 a0_0, .int .u32 a0_1, .int .i64 a0_2], .agg #[.int .u32 a1_0, .int .u32 a1_1, .int .u32 a1_2, .int .u32 a1_3]] rfl (by (try simp only [List.map_toArray, List.map_cons, List.map_nil]); first | done | rfl | (simp only [List.length_drop, List.length_take]; rfl)) ?_; (with_reducible refine (cell_Within.calls a0_0 a0_1 a0_2 a1_0 a1_1 a1_2 a1_3 true _ A10.out).mono ?_); rintro e w31 ⟨rfl, hb⟩; refine ⟨_, rfl, ?_⟩; have n0_ := Aside0.mk (blk_below (g := gb317) (o := .cells #[.int .u32 a0_0, .int .u32 a0_1, .int .i64 a0_2] 24 (0, 0)) (by (with_reducible repeat (first | refine blk_drewN ?_ _ | refine blk_drew ?_ | refine blk_alloc ?_ _)); exact BK317.out) hb); have n1_ := Aside0.mk (blk_below (g := gb318) (o := .cells #[.int .u32 a1_0, .int .u32 a1_1, .int .u32 a1_2, .int .u32 a1_3] 26 (0, 0)) (by (with_reducible repeat (first | refine blk_drewN ?_ _ | refine blk_drew ?_ | refine blk_alloc ?_ _)); exact BK318.out) hb); have n2_ := Aside0.mk (below_step (by repeat (first | (with_reducible first | exact HB.out | apply below_alloc | apply pw_below_drewN | apply below_drew1 | refine below_set ?_ GE317.out | refine below_set ?_ GE318.out) | exact HB.out)) hb); clear BK317; clear BK318; clear HB; have BK317 := n0_; have BK318 := n1_; have HB := n2_; clear n0_ n1_ n2_; (try clear hb); (try clear hb2); (try clear hk); (try clear hi); have hcz32_0 : w31.cell? ⟨gb317, 0, none⟩ = some (.int .u32 a0_0) := (blk_cell BK317.out 0).trans rfl; have hcz32_1 : w31.cell? ⟨gb317, 1, none⟩ = some (.int .u32 a0_1) := (blk_cell BK317.out 1).trans rfl; have hcz32_2 : w31.cell? ⟨gb317, 2, none⟩ = some (.int .i64 a0_2) := (blk_cell BK317.out 2).trans rfl; have hfz32_0 := blk_frozen BK317.out 0; have hfz32_1 := blk_frozen BK317.out 1; have hfz32_2 := blk_frozen BK317.out 2; have hcz33_0 : w31.cell? ⟨gb318, 0, none⟩ = some (.int .u32 a1_0) := (blk_cell BK318.out 0).trans rfl; have hcz33_1 : w31.cell? ⟨gb318, 1, none⟩ = some (.int .u32 a1_1) := (blk_cell BK318.out 1).trans rfl; have hcz33_2 : w31.cell? ⟨gb318, 2, none⟩ = some (.int .u32 a1_2) := (blk_cell BK318.out 2).trans rfl; have hcz33_3 : w31.cell? ⟨gb318, 3, none⟩ = some (.int .u32 a1_3) := (blk_cell BK318.out 3).trans rfl; have hfz33_0 := blk_frozen BK318.out 0; have hfz33_1 := blk_frozen BK318.out 1; have hfz33_2 := blk_frozen BK318.out 2; have hfz33_3 := blk_frozen BK318.out 3) | (go_at_call 31; (with_reducible refine (cell_Touches.calls a0_0 a0_1 a0_2 a1_0 a1_1 a1_2 a1_3 true _ A12.out).mono ?_); rintro e w34 ⟨rfl, hb⟩; have n0_ := Aside0.mk (blk_below (g := gb317) (o := .cells #[.int .u32 a0_0, .int .u32 a0_1, .int .i64 a0_2] 24 (0, 0)) (by (with_reducible repeat (first | refine blk_drewN ?_ _ | refine blk_drew ?_ | refine blk_alloc ?_ _)); exact BK317.out) hb); have n1_ := Aside0.mk (blk_below (g := gb318) (o := .cells #[.int .u32 a1_0, .int .u32 a1_1, .int .u32 a1_2, .int .u32 a1_3] 26 (0, 0)) (by (with_reducible repeat (first | refine blk_drewN ?_ _ | refine blk_drew ?_ | refine blk_alloc ?_ _)); exact BK318.out) hb); have n2_ := Aside0.mk (below_step (by repeat (first | (with_reducible first | exact HB.out | apply below_alloc | apply pw_below_drewN | apply below_drew1 | refine below_set ?_ GE317.out | refine below_set ?_ GE318.out) | exact HB.out)) hb); clear BK317; clear BK318; clear HB; have BK317 := n0_; have BK318 := n1_; have HB := n2_; clear n0_ n1_ n2_; (try clear hb); (try clear hb2); (try clear hk); (try clear hi); have hcz35_0 : w34.cell? ⟨gb317, 0, none⟩ = some (.int .u32 a0_0) := (blk_cell BK317.out 0).trans rfl; have hcz35_1 : w34.cell? ⟨gb317, 1, none⟩ = some (.int .u32 a0_1) := (blk_cell BK317.out 1).trans rfl; have hcz35_2 : w34.cell? ⟨gb317, 2, none⟩ = some (.int .i64 a0_2) := (blk_cell BK317.out 2).trans rfl; have hfz35_0 := blk_frozen BK317.out 0; have hfz35_1 := blk_frozen BK317.out 1; have hfz35_2 := blk_frozen BK317.out 2) | (go_at_call 17; (with_reducible refine (cell_Has.calls a0_0 a0_1 a0_2 a2 a3 false _ A14.out).mono ?_); rintro e w36 ⟨rfl, hb⟩; have n0_ := Aside0.mk (blk_below (g := gb317) (o := .cells #[.int .u32 a0_0, .int .u32 a0_1, .int .i64 a0_2] 24 (0, 0)) (by (with_reducible repeat (first | refine blk_drewN ?_ _ | refine blk_drew ?_ | refine blk_alloc ?_ _)); exact BK317.out) hb); have n1_ := Aside0.mk (blk_below (g := gb318) (o := .cells #[.int .u32 a1_0, .int .u32 a1_1, .int .u32 a1_2, .int .u32 a1_3] 26 (0, 0)) (by (with_reducible repeat (first | refine blk_drewN ?_ _ | refine blk_drew ?_ | refine blk_alloc ?_ _)); exact BK318.out) hb); have n2_ := Aside0.mk (below_step (by repeat (first | (with_reducible first | exact HB.out | apply below_alloc | apply pw_below_drewN | apply below_drew1 | refine below_set ?_ GE317.out | refine below_set ?_ GE318.out) | exact HB.out)) hb); clear BK317; clear BK318; clear HB; have BK317 := n0_; have BK318 := n1_; have HB := n2_; clear n0_ n1_ n2_; (try clear hb); (try clear hb2); (try clear hk); (try clear hi)))
          go_meet
          case rel => exact ⟨_, (false), (by first | rfl | (simp; done) | (simp [*]; done)), H', ⟨by first | omega | exact Nat.le_refl _⟩, ⟨by (with_reducible repeat (first | refine blk_drewN ?_ _ | refine blk_drew ?_ | refine blk_alloc ?_ _)); exact BK317.out⟩, ⟨by (with_reducible repeat (first | refine blk_drewN ?_ _ | refine blk_drew ?_ | refine blk_alloc ?_ _)); exact BK318.out⟩, ⟨by repeat (first | (with_reducible first | exact HB.out | apply below_alloc | apply pw_below_drewN | apply below_drew1 | refine below_set ?_ GE317.out | refine below_set ?_ GE318.out) | exact HB.out)⟩⟩
      · replace c13 := Bool.eq_false_iff.mpr c13
        subst c13
        have H1 : (sphragislaw08_CellInside.j0 k a2 a3 t319 true a0_0 a0_1 a0_2 a1_0 a1_1 a1_2 a1_3) = some r := by rw [if_neg (show ¬ (false = true) by decide)] at H; exact H
        clear H
        have H := H1
        clear H1
        have H' := Aside0.mk H
        clear H
        have hnb37 := NB317_318.out
        have hnc37 := NB318_317.out
        have hcz38_0 : w9.cell? ⟨gb317, 0, none⟩ = some (.int .u32 a0_0) := (blk_cell BK317.out 0).trans rfl
        have hcz38_1 : w9.cell? ⟨gb317, 1, none⟩ = some (.int .u32 a0_1) := (blk_cell BK317.out 1).trans rfl
        have hcz38_2 : w9.cell? ⟨gb317, 2, none⟩ = some (.int .i64 a0_2) := (blk_cell BK317.out 2).trans rfl
        have hfz38_0 := blk_frozen BK317.out 0
        have hfz38_1 := blk_frozen BK317.out 1
        have hfz38_2 := blk_frozen BK317.out 2
        have hcz39_0 : w9.cell? ⟨gb318, 0, none⟩ = some (.int .u32 a1_0) := (blk_cell BK318.out 0).trans rfl
        have hcz39_1 : w9.cell? ⟨gb318, 1, none⟩ = some (.int .u32 a1_1) := (blk_cell BK318.out 1).trans rfl
        have hcz39_2 : w9.cell? ⟨gb318, 2, none⟩ = some (.int .u32 a1_2) := (blk_cell BK318.out 2).trans rfl
        have hcz39_3 : w9.cell? ⟨gb318, 3, none⟩ = some (.int .u32 a1_3) := (blk_cell BK318.out 3).trans rfl
        have hfz39_0 := blk_frozen BK318.out 0
        have hfz39_1 := blk_frozen BK318.out 1
        have hfz39_2 := blk_frozen BK318.out 2
        have hfz39_3 := blk_frozen BK318.out 3
        go_wp2_with (first | ((with_reducible refine gate_callee (f := 33) rfl ?_); refine goesL_ (some 13) rfl rfl Try.func33 (by kernel_rfl) rfl #[.agg #[.int .u32 a0_0, .int .u32 a0_1, .int .i64 a0_2], .agg #[.int .u32 a1_0, .int .u32 a1_1, .int .u32 a1_2, .int .u32 a1_3]] rfl (by (try simp only [List.map_toArray, List.map_cons, List.map_nil]); first | done | rfl | (simp only [List.length_drop, List.length_take]; rfl)) ?_; (with_reducible refine (cell_Within.calls a0_0 a0_1 a0_2 a1_0 a1_1 a1_2 a1_3 true _ A10.out).mono ?_); rintro e w40 ⟨rfl, hb⟩; refine ⟨_, rfl, ?_⟩; have n0_ := Aside0.mk (blk_below (g := gb317) (o := .cells #[.int .u32 a0_0, .int .u32 a0_1, .int .i64 a0_2] 24 (0, 0)) (by (with_reducible repeat (first | refine blk_drewN ?_ _ | refine blk_drew ?_ | refine blk_alloc ?_ _)); exact BK317.out) hb); have n1_ := Aside0.mk (blk_below (g := gb318) (o := .cells #[.int .u32 a1_0, .int .u32 a1_1, .int .u32 a1_2, .int .u32 a1_3] 26 (0, 0)) (by (with_reducible repeat (first | refine blk_drewN ?_ _ | refine blk_drew ?_ | refine blk_alloc ?_ _)); exact BK318.out) hb); have n2_ := Aside0.mk (below_step (by repeat (first | (with_reducible first | exact HB.out | apply below_alloc | apply pw_below_drewN | apply below_drew1 | refine below_set ?_ GE317.out | refine below_set ?_ GE318.out) | exact HB.out)) hb); clear BK317; clear BK318; clear HB; have BK317 := n0_; have BK318 := n1_; have HB := n2_; clear n0_ n1_ n2_; (try clear hb); (try clear hb2); (try clear hk); (try clear hi); have hcz41_0 : w40.cell? ⟨gb317, 0, none⟩ = some (.int .u32 a0_0) := (blk_cell BK317.out 0).trans rfl; have hcz41_1 : w40.cell? ⟨gb317, 1, none⟩ = some (.int .u32 a0_1) := (blk_cell BK317.out 1).trans rfl; have hcz41_2 : w40.cell? ⟨gb317, 2, none⟩ = some (.int .i64 a0_2) := (blk_cell BK317.out 2).trans rfl; have hfz41_0 := blk_frozen BK317.out 0; have hfz41_1 := blk_frozen BK317.out 1; have hfz41_2 := blk_frozen BK317.out 2; have hcz42_0 : w40.cell? ⟨gb318, 0, none⟩ = some (.int .u32 a1_0) := (blk_cell BK318.out 0).trans rfl; have hcz42_1 : w40.cell? ⟨gb318, 1, none⟩ = some (.int .u32 a1_1) := (blk_cell BK318.out 1).trans rfl; have hcz42_2 : w40.cell? ⟨gb318, 2, none⟩ = some (.int .u32 a1_2) := (blk_cell BK318.out 2).trans rfl; have hcz42_3 : w40.cell? ⟨gb318, 3, none⟩ = some (.int .u32 a1_3) := (blk_cell BK318.out 3).trans rfl; have hfz42_0 := blk_frozen BK318.out 0; have hfz42_1 := blk_frozen BK318.out 1; have hfz42_2 := blk_frozen BK318.out 2; have hfz42_3 := blk_frozen BK318.out 3) | (go_at_call 31; (with_reducible refine (cell_Touches.calls a0_0 a0_1 a0_2 a1_0 a1_1 a1_2 a1_3 false _ A12.out).mono ?_); rintro e w43 ⟨rfl, hb⟩; have n0_ := Aside0.mk (blk_below (g := gb317) (o := .cells #[.int .u32 a0_0, .int .u32 a0_1, .int .i64 a0_2] 24 (0, 0)) (by (with_reducible repeat (first | refine blk_drewN ?_ _ | refine blk_drew ?_ | refine blk_alloc ?_ _)); exact BK317.out) hb); have n1_ := Aside0.mk (blk_below (g := gb318) (o := .cells #[.int .u32 a1_0, .int .u32 a1_1, .int .u32 a1_2, .int .u32 a1_3] 26 (0, 0)) (by (with_reducible repeat (first | refine blk_drewN ?_ _ | refine blk_drew ?_ | refine blk_alloc ?_ _)); exact BK318.out) hb); have n2_ := Aside0.mk (below_step (by repeat (first | (with_reducible first | exact HB.out | apply below_alloc | apply pw_below_drewN | apply below_drew1 | refine below_set ?_ GE317.out | refine below_set ?_ GE318.out) | exact HB.out)) hb); clear BK317; clear BK318; clear HB; have BK317 := n0_; have BK318 := n1_; have HB := n2_; clear n0_ n1_ n2_; (try clear hb); (try clear hb2); (try clear hk); (try clear hi)))
        go_meet
        case rel => exact ⟨_, (true), (by first | rfl | (simp; done) | (simp [*]; done)), H', ⟨by first | omega | exact Nat.le_refl _⟩, ⟨by (with_reducible repeat (first | refine blk_drewN ?_ _ | refine blk_drew ?_ | refine blk_alloc ?_ _)); exact BK317.out⟩, ⟨by (with_reducible repeat (first | refine blk_drewN ?_ _ | refine blk_drew ?_ | refine blk_alloc ?_ _)); exact BK318.out⟩, ⟨by repeat (first | (with_reducible first | exact HB.out | apply below_alloc | apply pw_below_drewN | apply below_drew1 | refine below_set ?_ GE317.out | refine below_set ?_ GE318.out) | exact HB.out)⟩⟩
    · replace c11 := Bool.eq_false_iff.mpr c11
      subst c11
      have H1 : (sphragislaw08_CellInside.j0 k a2 a3 t319 false a0_0 a0_1 a0_2 a1_0 a1_1 a1_2 a1_3) = some r := by rw [if_neg (show ¬ (false = true) by decide)] at H; exact H
      clear H
      have H := H1
      clear H1
      have H' := Aside0.mk H
      clear H
      have hnb44 := NB317_318.out
      have hnc44 := NB318_317.out
      have hcz45_0 : w9.cell? ⟨gb317, 0, none⟩ = some (.int .u32 a0_0) := (blk_cell BK317.out 0).trans rfl
      have hcz45_1 : w9.cell? ⟨gb317, 1, none⟩ = some (.int .u32 a0_1) := (blk_cell BK317.out 1).trans rfl
      have hcz45_2 : w9.cell? ⟨gb317, 2, none⟩ = some (.int .i64 a0_2) := (blk_cell BK317.out 2).trans rfl
      have hfz45_0 := blk_frozen BK317.out 0
      have hfz45_1 := blk_frozen BK317.out 1
      have hfz45_2 := blk_frozen BK317.out 2
      have hcz46_0 : w9.cell? ⟨gb318, 0, none⟩ = some (.int .u32 a1_0) := (blk_cell BK318.out 0).trans rfl
      have hcz46_1 : w9.cell? ⟨gb318, 1, none⟩ = some (.int .u32 a1_1) := (blk_cell BK318.out 1).trans rfl
      have hcz46_2 : w9.cell? ⟨gb318, 2, none⟩ = some (.int .u32 a1_2) := (blk_cell BK318.out 2).trans rfl
      have hcz46_3 : w9.cell? ⟨gb318, 3, none⟩ = some (.int .u32 a1_3) := (blk_cell BK318.out 3).trans rfl
      have hfz46_0 := blk_frozen BK318.out 0
      have hfz46_1 := blk_frozen BK318.out 1
      have hfz46_2 := blk_frozen BK318.out 2
      have hfz46_3 := blk_frozen BK318.out 3
      go_wp2_with (first | ((with_reducible refine gate_callee (f := 33) rfl ?_); refine goesL_ (some 13) rfl rfl Try.func33 (by kernel_rfl) rfl #[.agg #[.int .u32 a0_0, .int .u32 a0_1, .int .i64 a0_2], .agg #[.int .u32 a1_0, .int .u32 a1_1, .int .u32 a1_2, .int .u32 a1_3]] rfl (by (try simp only [List.map_toArray, List.map_cons, List.map_nil]); first | done | rfl | (simp only [List.length_drop, List.length_take]; rfl)) ?_; (with_reducible refine (cell_Within.calls a0_0 a0_1 a0_2 a1_0 a1_1 a1_2 a1_3 false _ A10.out).mono ?_); rintro e w47 ⟨rfl, hb⟩; refine ⟨_, rfl, ?_⟩; have n0_ := Aside0.mk (blk_below (g := gb317) (o := .cells #[.int .u32 a0_0, .int .u32 a0_1, .int .i64 a0_2] 24 (0, 0)) (by (with_reducible repeat (first | refine blk_drewN ?_ _ | refine blk_drew ?_ | refine blk_alloc ?_ _)); exact BK317.out) hb); have n1_ := Aside0.mk (blk_below (g := gb318) (o := .cells #[.int .u32 a1_0, .int .u32 a1_1, .int .u32 a1_2, .int .u32 a1_3] 26 (0, 0)) (by (with_reducible repeat (first | refine blk_drewN ?_ _ | refine blk_drew ?_ | refine blk_alloc ?_ _)); exact BK318.out) hb); have n2_ := Aside0.mk (below_step (by repeat (first | (with_reducible first | exact HB.out | apply below_alloc | apply pw_below_drewN | apply below_drew1 | refine below_set ?_ GE317.out | refine below_set ?_ GE318.out) | exact HB.out)) hb); clear BK317; clear BK318; clear HB; have BK317 := n0_; have BK318 := n1_; have HB := n2_; clear n0_ n1_ n2_; (try clear hb); (try clear hb2); (try clear hk); (try clear hi)))
      go_meet
      case rel => exact ⟨_, (false), (by first | rfl | (simp; done) | (simp [*]; done)), H', ⟨by first | omega | exact Nat.le_refl _⟩, ⟨by (with_reducible repeat (first | refine blk_drewN ?_ _ | refine blk_drew ?_ | refine blk_alloc ?_ _)); exact BK317.out⟩, ⟨by (with_reducible repeat (first | refine blk_drewN ?_ _ | refine blk_drew ?_ | refine blk_alloc ?_ _)); exact BK318.out⟩, ⟨by repeat (first | (with_reducible first | exact HB.out | apply below_alloc | apply pw_below_drewN | apply below_drew1 | refine below_set ?_ GE317.out | refine below_set ?_ GE318.out) | exact HB.out)⟩⟩
  case rest =>
    clear HC6
    try clear c1
    try clear c2
    try clear p2
    try clear c3
    try clear c4
    try clear c11
    try clear c12
    try clear c13
    try clear c15
    try clear c17
    try clear c28
    try clear c33
    try clear c37
    try clear c44
    try clear hcz18_0
    try clear hcz18_1
    try clear hcz18_2
    try clear hcz19_0
    try clear hcz19_1
    try clear hcz19_2
    try clear hcz19_3
    try clear hcz21_0
    try clear hcz21_1
    try clear hcz21_2
    try clear hcz22_0
    try clear hcz22_1
    try clear hcz22_2
    try clear hcz22_3
    try clear hcz24_0
    try clear hcz24_1
    try clear hcz24_2
    try clear hcz26_0
    try clear hcz26_1
    try clear hcz26_2
    try clear hcz26_3
    try clear hcz29_0
    try clear hcz29_1
    try clear hcz29_2
    try clear hcz30_0
    try clear hcz30_1
    try clear hcz30_2
    try clear hcz30_3
    try clear hcz32_0
    try clear hcz32_1
    try clear hcz32_2
    try clear hcz33_0
    try clear hcz33_1
    try clear hcz33_2
    try clear hcz33_3
    try clear hcz35_0
    try clear hcz35_1
    try clear hcz35_2
    try clear hcz38_0
    try clear hcz38_1
    try clear hcz38_2
    try clear hcz39_0
    try clear hcz39_1
    try clear hcz39_2
    try clear hcz39_3
    try clear hcz41_0
    try clear hcz41_1
    try clear hcz41_2
    try clear hcz42_0
    try clear hcz42_1
    try clear hcz42_2
    try clear hcz42_3
    try clear hcz45_0
    try clear hcz45_1
    try clear hcz45_2
    try clear hcz46_0
    try clear hcz46_1
    try clear hcz46_2
    try clear hcz46_3
    try clear hfz18_0
    try clear hfz18_1
    try clear hfz18_2
    try clear hfz19_0
    try clear hfz19_1
    try clear hfz19_2
    try clear hfz19_3
    try clear hfz21_0
    try clear hfz21_1
    try clear hfz21_2
    try clear hfz22_0
    try clear hfz22_1
    try clear hfz22_2
    try clear hfz22_3
    try clear hfz24_0
    try clear hfz24_1
    try clear hfz24_2
    try clear hfz26_0
    try clear hfz26_1
    try clear hfz26_2
    try clear hfz26_3
    try clear hfz29_0
    try clear hfz29_1
    try clear hfz29_2
    try clear hfz30_0
    try clear hfz30_1
    try clear hfz30_2
    try clear hfz30_3
    try clear hfz32_0
    try clear hfz32_1
    try clear hfz32_2
    try clear hfz33_0
    try clear hfz33_1
    try clear hfz33_2
    try clear hfz33_3
    try clear hfz35_0
    try clear hfz35_1
    try clear hfz35_2
    try clear hfz38_0
    try clear hfz38_1
    try clear hfz38_2
    try clear hfz39_0
    try clear hfz39_1
    try clear hfz39_2
    try clear hfz39_3
    try clear hfz41_0
    try clear hfz41_1
    try clear hfz41_2
    try clear hfz42_0
    try clear hfz42_1
    try clear hfz42_2
    try clear hfz42_3
    try clear hfz45_0
    try clear hfz45_1
    try clear hfz45_2
    try clear hfz46_0
    try clear hfz46_1
    try clear hfz46_2
    try clear hfz46_3
    obtain ⟨kq, x32_5, rfl, HA, HJ5, BK317, BK318, HB⟩ := hcut
    cases kq with
    | zero => exact absurd HA.out (by simp [sphragislaw08_CellInside.j0])
    | succ kj5 =>
      have H := HA.out
      clear HA
      simp only [sphragislaw08_CellInside.j0] at H
      by_cases c48 : x32_5 = true
      · subst c48
        have H1 : (some false) = some r := by rw [if_pos rfl] at H; exact H
        clear H
        have H := H1
        clear H1
        obtain rfl := Option.some.inj H
        go_wp2
        go_ret
        exact ⟨by first | rfl | (simp [errW_none, errW_some] <;> rfl) | (simp [*, errW_none, errW_some] <;> rfl), by repeat (first | (with_reducible first | exact HB.out | apply below_alloc | apply pw_below_drewN | apply below_drew1 | refine below_set ?_ GE317.out | refine below_set ?_ GE318.out) | exact HB.out)⟩
      · replace c48 := Bool.eq_false_iff.mpr c48
        subst c48
        have H1 : (if t319 = true then ((cell_Touches.f a0_0 a0_1 a0_2 a1_0 a1_1 a1_2 a1_3).bind fun t324 => (if t324 = true then (some true) else ((cell_Has.f a0_0 a0_1 a0_2 a2 a3).bind fun t325 => (if t325 = true then ((cell_In.f a1_0 a1_1 a1_2 a1_3 a2 a3).bind fun t326 => (some (!t326))) else (some true))))) else (some false)) = some r := by rw [if_neg (show ¬ (false = true) by decide)] at H; exact H
        clear H
        have H := H1
        clear H1
        by_cases c49 : t319 = true
        · subst c49
          have H1 : ((cell_Touches.f a0_0 a0_1 a0_2 a1_0 a1_1 a1_2 a1_3).bind fun t324 => (if t324 = true then (some true) else ((cell_Has.f a0_0 a0_1 a0_2 a2 a3).bind fun t325 => (if t325 = true then ((cell_In.f a1_0 a1_1 a1_2 a1_3 a2 a3).bind fun t326 => (some (!t326))) else (some true))))) = some r := by rw [if_pos rfl] at H; exact H
          clear H
          have H := H1
          clear H1
          replace H := Option.bind_eq_some_iff.mp H
          obtain ⟨t324, A500, H⟩ := H
          replace H : (if t324 = true then (some true) else ((cell_Has.f a0_0 a0_1 a0_2 a2 a3).bind fun t325 => (if t325 = true then ((cell_In.f a1_0 a1_1 a1_2 a1_3 a2 a3).bind fun t326 => (some (!t326))) else (some true)))) = some r := H
          have A50 := Aside0.mk A500
          clear A500
          by_cases c51 : t324 = true
          · subst c51
            have H1 : (some true) = some r := by rw [if_pos rfl] at H; exact H
            clear H
            have H := H1
            clear H1
            obtain rfl := Option.some.inj H
            have hnb52 := NB317_318.out
            have hnc52 := NB318_317.out
            have hcz53_0 : wc.cell? ⟨gb317, 0, none⟩ = some (.int .u32 a0_0) := (blk_cell BK317.out 0).trans rfl
            have hcz53_1 : wc.cell? ⟨gb317, 1, none⟩ = some (.int .u32 a0_1) := (blk_cell BK317.out 1).trans rfl
            have hcz53_2 : wc.cell? ⟨gb317, 2, none⟩ = some (.int .i64 a0_2) := (blk_cell BK317.out 2).trans rfl
            have hfz53_0 := blk_frozen BK317.out 0
            have hfz53_1 := blk_frozen BK317.out 1
            have hfz53_2 := blk_frozen BK317.out 2
            have hcz54_0 : wc.cell? ⟨gb318, 0, none⟩ = some (.int .u32 a1_0) := (blk_cell BK318.out 0).trans rfl
            have hcz54_1 : wc.cell? ⟨gb318, 1, none⟩ = some (.int .u32 a1_1) := (blk_cell BK318.out 1).trans rfl
            have hcz54_2 : wc.cell? ⟨gb318, 2, none⟩ = some (.int .u32 a1_2) := (blk_cell BK318.out 2).trans rfl
            have hcz54_3 : wc.cell? ⟨gb318, 3, none⟩ = some (.int .u32 a1_3) := (blk_cell BK318.out 3).trans rfl
            have hfz54_0 := blk_frozen BK318.out 0
            have hfz54_1 := blk_frozen BK318.out 1
            have hfz54_2 := blk_frozen BK318.out 2
            have hfz54_3 := blk_frozen BK318.out 3
            go_wp2_with (first | (go_at_call 31; (with_reducible refine (cell_Touches.calls a0_0 a0_1 a0_2 a1_0 a1_1 a1_2 a1_3 true _ A50.out).mono ?_); rintro e w55 ⟨rfl, hb⟩; have n0_ := Aside0.mk (blk_below (g := gb317) (o := .cells #[.int .u32 a0_0, .int .u32 a0_1, .int .i64 a0_2] 24 (0, 0)) (by (with_reducible repeat (first | refine blk_drewN ?_ _ | refine blk_drew ?_ | refine blk_alloc ?_ _)); exact BK317.out) hb); have n1_ := Aside0.mk (blk_below (g := gb318) (o := .cells #[.int .u32 a1_0, .int .u32 a1_1, .int .u32 a1_2, .int .u32 a1_3] 26 (0, 0)) (by (with_reducible repeat (first | refine blk_drewN ?_ _ | refine blk_drew ?_ | refine blk_alloc ?_ _)); exact BK318.out) hb); have n2_ := Aside0.mk (below_step (by repeat (first | (with_reducible first | exact HB.out | apply below_alloc | apply pw_below_drewN | apply below_drew1 | refine below_set ?_ GE317.out | refine below_set ?_ GE318.out) | exact HB.out)) hb); clear BK317; clear BK318; clear HB; have BK317 := n0_; have BK318 := n1_; have HB := n2_; clear n0_ n1_ n2_; (try clear hb); (try clear hb2); (try clear hk); (try clear hi)))
            go_ret
            exact ⟨by first | rfl | (simp [errW_none, errW_some] <;> rfl) | (simp [*, errW_none, errW_some] <;> rfl), by repeat (first | (with_reducible first | exact HB.out | apply below_alloc | apply pw_below_drewN | apply below_drew1 | refine below_set ?_ GE317.out | refine below_set ?_ GE318.out) | exact HB.out)⟩
          · replace c51 := Bool.eq_false_iff.mpr c51
            subst c51
            have H1 : ((cell_Has.f a0_0 a0_1 a0_2 a2 a3).bind fun t325 => (if t325 = true then ((cell_In.f a1_0 a1_1 a1_2 a1_3 a2 a3).bind fun t326 => (some (!t326))) else (some true))) = some r := by rw [if_neg (show ¬ (false = true) by decide)] at H; exact H
            clear H
            have H := H1
            clear H1
            replace H := Option.bind_eq_some_iff.mp H
            obtain ⟨t325, A560, H⟩ := H
            replace H : (if t325 = true then ((cell_In.f a1_0 a1_1 a1_2 a1_3 a2 a3).bind fun t326 => (some (!t326))) else (some true)) = some r := H
            have A56 := Aside0.mk A560
            clear A560
            by_cases c57 : t325 = true
            · subst c57
              have H1 : ((cell_In.f a1_0 a1_1 a1_2 a1_3 a2 a3).bind fun t326 => (some (!t326))) = some r := by rw [if_pos rfl] at H; exact H
              clear H
              have H := H1
              clear H1
              replace H := Option.bind_eq_some_iff.mp H
              obtain ⟨t326, A580, H⟩ := H
              replace H : (some (!t326)) = some r := H
              have A58 := Aside0.mk A580
              clear A580
              obtain rfl := Option.some.inj H
              have hnb59 := NB317_318.out
              have hnc59 := NB318_317.out
              have hcz60_0 : wc.cell? ⟨gb317, 0, none⟩ = some (.int .u32 a0_0) := (blk_cell BK317.out 0).trans rfl
              have hcz60_1 : wc.cell? ⟨gb317, 1, none⟩ = some (.int .u32 a0_1) := (blk_cell BK317.out 1).trans rfl
              have hcz60_2 : wc.cell? ⟨gb317, 2, none⟩ = some (.int .i64 a0_2) := (blk_cell BK317.out 2).trans rfl
              have hfz60_0 := blk_frozen BK317.out 0
              have hfz60_1 := blk_frozen BK317.out 1
              have hfz60_2 := blk_frozen BK317.out 2
              have hcz61_0 : wc.cell? ⟨gb318, 0, none⟩ = some (.int .u32 a1_0) := (blk_cell BK318.out 0).trans rfl
              have hcz61_1 : wc.cell? ⟨gb318, 1, none⟩ = some (.int .u32 a1_1) := (blk_cell BK318.out 1).trans rfl
              have hcz61_2 : wc.cell? ⟨gb318, 2, none⟩ = some (.int .u32 a1_2) := (blk_cell BK318.out 2).trans rfl
              have hcz61_3 : wc.cell? ⟨gb318, 3, none⟩ = some (.int .u32 a1_3) := (blk_cell BK318.out 3).trans rfl
              have hfz61_0 := blk_frozen BK318.out 0
              have hfz61_1 := blk_frozen BK318.out 1
              have hfz61_2 := blk_frozen BK318.out 2
              have hfz61_3 := blk_frozen BK318.out 3
              go_wp2_with (first | (go_at_call 31; (with_reducible refine (cell_Touches.calls a0_0 a0_1 a0_2 a1_0 a1_1 a1_2 a1_3 false _ A50.out).mono ?_); rintro e w62 ⟨rfl, hb⟩; have n0_ := Aside0.mk (blk_below (g := gb317) (o := .cells #[.int .u32 a0_0, .int .u32 a0_1, .int .i64 a0_2] 24 (0, 0)) (by (with_reducible repeat (first | refine blk_drewN ?_ _ | refine blk_drew ?_ | refine blk_alloc ?_ _)); exact BK317.out) hb); have n1_ := Aside0.mk (blk_below (g := gb318) (o := .cells #[.int .u32 a1_0, .int .u32 a1_1, .int .u32 a1_2, .int .u32 a1_3] 26 (0, 0)) (by (with_reducible repeat (first | refine blk_drewN ?_ _ | refine blk_drew ?_ | refine blk_alloc ?_ _)); exact BK318.out) hb); have n2_ := Aside0.mk (below_step (by repeat (first | (with_reducible first | exact HB.out | apply below_alloc | apply pw_below_drewN | apply below_drew1 | refine below_set ?_ GE317.out | refine below_set ?_ GE318.out) | exact HB.out)) hb); clear BK317; clear BK318; clear HB; have BK317 := n0_; have BK318 := n1_; have HB := n2_; clear n0_ n1_ n2_; (try clear hb); (try clear hb2); (try clear hk); (try clear hi); have hcz63_0 : w62.cell? ⟨gb317, 0, none⟩ = some (.int .u32 a0_0) := (blk_cell BK317.out 0).trans rfl; have hcz63_1 : w62.cell? ⟨gb317, 1, none⟩ = some (.int .u32 a0_1) := (blk_cell BK317.out 1).trans rfl; have hcz63_2 : w62.cell? ⟨gb317, 2, none⟩ = some (.int .i64 a0_2) := (blk_cell BK317.out 2).trans rfl; have hfz63_0 := blk_frozen BK317.out 0; have hfz63_1 := blk_frozen BK317.out 1; have hfz63_2 := blk_frozen BK317.out 2) | (go_at_call 17; (with_reducible refine (cell_Has.calls a0_0 a0_1 a0_2 a2 a3 true _ A56.out).mono ?_); rintro e w64 ⟨rfl, hb⟩; have n0_ := Aside0.mk (blk_below (g := gb317) (o := .cells #[.int .u32 a0_0, .int .u32 a0_1, .int .i64 a0_2] 24 (0, 0)) (by (with_reducible repeat (first | refine blk_drewN ?_ _ | refine blk_drew ?_ | refine blk_alloc ?_ _)); exact BK317.out) hb); have n1_ := Aside0.mk (blk_below (g := gb318) (o := .cells #[.int .u32 a1_0, .int .u32 a1_1, .int .u32 a1_2, .int .u32 a1_3] 26 (0, 0)) (by (with_reducible repeat (first | refine blk_drewN ?_ _ | refine blk_drew ?_ | refine blk_alloc ?_ _)); exact BK318.out) hb); have n2_ := Aside0.mk (below_step (by repeat (first | (with_reducible first | exact HB.out | apply below_alloc | apply pw_below_drewN | apply below_drew1 | refine below_set ?_ GE317.out | refine below_set ?_ GE318.out) | exact HB.out)) hb); clear BK317; clear BK318; clear HB; have BK317 := n0_; have BK318 := n1_; have HB := n2_; clear n0_ n1_ n2_; (try clear hb); (try clear hb2); (try clear hk); (try clear hi); have hcz65_0 : w64.cell? ⟨gb318, 0, none⟩ = some (.int .u32 a1_0) := (blk_cell BK318.out 0).trans rfl; have hcz65_1 : w64.cell? ⟨gb318, 1, none⟩ = some (.int .u32 a1_1) := (blk_cell BK318.out 1).trans rfl; have hcz65_2 : w64.cell? ⟨gb318, 2, none⟩ = some (.int .u32 a1_2) := (blk_cell BK318.out 2).trans rfl; have hcz65_3 : w64.cell? ⟨gb318, 3, none⟩ = some (.int .u32 a1_3) := (blk_cell BK318.out 3).trans rfl; have hfz65_0 := blk_frozen BK318.out 0; have hfz65_1 := blk_frozen BK318.out 1; have hfz65_2 := blk_frozen BK318.out 2; have hfz65_3 := blk_frozen BK318.out 3) | (go_at_call 19; (with_reducible refine (cell_In.calls a1_0 a1_1 a1_2 a1_3 a2 a3 t326 _ A58.out).mono ?_); rintro e w66 ⟨rfl, hb⟩; have n0_ := Aside0.mk (blk_below (g := gb317) (o := .cells #[.int .u32 a0_0, .int .u32 a0_1, .int .i64 a0_2] 24 (0, 0)) (by (with_reducible repeat (first | refine blk_drewN ?_ _ | refine blk_drew ?_ | refine blk_alloc ?_ _)); exact BK317.out) hb); have n1_ := Aside0.mk (blk_below (g := gb318) (o := .cells #[.int .u32 a1_0, .int .u32 a1_1, .int .u32 a1_2, .int .u32 a1_3] 26 (0, 0)) (by (with_reducible repeat (first | refine blk_drewN ?_ _ | refine blk_drew ?_ | refine blk_alloc ?_ _)); exact BK318.out) hb); have n2_ := Aside0.mk (below_step (by repeat (first | (with_reducible first | exact HB.out | apply below_alloc | apply pw_below_drewN | apply below_drew1 | refine below_set ?_ GE317.out | refine below_set ?_ GE318.out) | exact HB.out)) hb); clear BK317; clear BK318; clear HB; have BK317 := n0_; have BK318 := n1_; have HB := n2_; clear n0_ n1_ n2_; (try clear hb); (try clear hb2); (try clear hk); (try clear hi)))
              go_ret
              exact ⟨by first | rfl | (simp [errW_none, errW_some] <;> rfl) | (simp [*, errW_none, errW_some] <;> rfl), by repeat (first | (with_reducible first | exact HB.out | apply below_alloc | apply pw_below_drewN | apply below_drew1 | refine below_set ?_ GE317.out | refine below_set ?_ GE318.out) | exact HB.out)⟩
            · replace c57 := Bool.eq_false_iff.mpr c57
              subst c57
              have H1 : (some true) = some r := by rw [if_neg (show ¬ (false = true) by decide)] at H; exact H
              clear H
              have H := H1
              clear H1
              obtain rfl := Option.some.inj H
              have hnb67 := NB317_318.out
              have hnc67 := NB318_317.out
              have hcz68_0 : wc.cell? ⟨gb317, 0, none⟩ = some (.int .u32 a0_0) := (blk_cell BK317.out 0).trans rfl
              have hcz68_1 : wc.cell? ⟨gb317, 1, none⟩ = some (.int .u32 a0_1) := (blk_cell BK317.out 1).trans rfl
              have hcz68_2 : wc.cell? ⟨gb317, 2, none⟩ = some (.int .i64 a0_2) := (blk_cell BK317.out 2).trans rfl
              have hfz68_0 := blk_frozen BK317.out 0
              have hfz68_1 := blk_frozen BK317.out 1
              have hfz68_2 := blk_frozen BK317.out 2
              have hcz69_0 : wc.cell? ⟨gb318, 0, none⟩ = some (.int .u32 a1_0) := (blk_cell BK318.out 0).trans rfl
              have hcz69_1 : wc.cell? ⟨gb318, 1, none⟩ = some (.int .u32 a1_1) := (blk_cell BK318.out 1).trans rfl
              have hcz69_2 : wc.cell? ⟨gb318, 2, none⟩ = some (.int .u32 a1_2) := (blk_cell BK318.out 2).trans rfl
              have hcz69_3 : wc.cell? ⟨gb318, 3, none⟩ = some (.int .u32 a1_3) := (blk_cell BK318.out 3).trans rfl
              have hfz69_0 := blk_frozen BK318.out 0
              have hfz69_1 := blk_frozen BK318.out 1
              have hfz69_2 := blk_frozen BK318.out 2
              have hfz69_3 := blk_frozen BK318.out 3
              go_wp2_with (first | (go_at_call 31; (with_reducible refine (cell_Touches.calls a0_0 a0_1 a0_2 a1_0 a1_1 a1_2 a1_3 false _ A50.out).mono ?_); rintro e w70 ⟨rfl, hb⟩; have n0_ := Aside0.mk (blk_below (g := gb317) (o := .cells #[.int .u32 a0_0, .int .u32 a0_1, .int .i64 a0_2] 24 (0, 0)) (by (with_reducible repeat (first | refine blk_drewN ?_ _ | refine blk_drew ?_ | refine blk_alloc ?_ _)); exact BK317.out) hb); have n1_ := Aside0.mk (blk_below (g := gb318) (o := .cells #[.int .u32 a1_0, .int .u32 a1_1, .int .u32 a1_2, .int .u32 a1_3] 26 (0, 0)) (by (with_reducible repeat (first | refine blk_drewN ?_ _ | refine blk_drew ?_ | refine blk_alloc ?_ _)); exact BK318.out) hb); have n2_ := Aside0.mk (below_step (by repeat (first | (with_reducible first | exact HB.out | apply below_alloc | apply pw_below_drewN | apply below_drew1 | refine below_set ?_ GE317.out | refine below_set ?_ GE318.out) | exact HB.out)) hb); clear BK317; clear BK318; clear HB; have BK317 := n0_; have BK318 := n1_; have HB := n2_; clear n0_ n1_ n2_; (try clear hb); (try clear hb2); (try clear hk); (try clear hi); have hcz71_0 : w70.cell? ⟨gb317, 0, none⟩ = some (.int .u32 a0_0) := (blk_cell BK317.out 0).trans rfl; have hcz71_1 : w70.cell? ⟨gb317, 1, none⟩ = some (.int .u32 a0_1) := (blk_cell BK317.out 1).trans rfl; have hcz71_2 : w70.cell? ⟨gb317, 2, none⟩ = some (.int .i64 a0_2) := (blk_cell BK317.out 2).trans rfl; have hfz71_0 := blk_frozen BK317.out 0; have hfz71_1 := blk_frozen BK317.out 1; have hfz71_2 := blk_frozen BK317.out 2) | (go_at_call 17; (with_reducible refine (cell_Has.calls a0_0 a0_1 a0_2 a2 a3 false _ A56.out).mono ?_); rintro e w72 ⟨rfl, hb⟩; have n0_ := Aside0.mk (blk_below (g := gb317) (o := .cells #[.int .u32 a0_0, .int .u32 a0_1, .int .i64 a0_2] 24 (0, 0)) (by (with_reducible repeat (first | refine blk_drewN ?_ _ | refine blk_drew ?_ | refine blk_alloc ?_ _)); exact BK317.out) hb); have n1_ := Aside0.mk (blk_below (g := gb318) (o := .cells #[.int .u32 a1_0, .int .u32 a1_1, .int .u32 a1_2, .int .u32 a1_3] 26 (0, 0)) (by (with_reducible repeat (first | refine blk_drewN ?_ _ | refine blk_drew ?_ | refine blk_alloc ?_ _)); exact BK318.out) hb); have n2_ := Aside0.mk (below_step (by repeat (first | (with_reducible first | exact HB.out | apply below_alloc | apply pw_below_drewN | apply below_drew1 | refine below_set ?_ GE317.out | refine below_set ?_ GE318.out) | exact HB.out)) hb); clear BK317; clear BK318; clear HB; have BK317 := n0_; have BK318 := n1_; have HB := n2_; clear n0_ n1_ n2_; (try clear hb); (try clear hb2); (try clear hk); (try clear hi)))
              go_ret
              exact ⟨by first | rfl | (simp [errW_none, errW_some] <;> rfl) | (simp [*, errW_none, errW_some] <;> rfl), by repeat (first | (with_reducible first | exact HB.out | apply below_alloc | apply pw_below_drewN | apply below_drew1 | refine below_set ?_ GE317.out | refine below_set ?_ GE318.out) | exact HB.out)⟩
        · replace c49 := Bool.eq_false_iff.mpr c49
          subst c49
          have H1 : (some false) = some r := by rw [if_neg (show ¬ (false = true) by decide)] at H; exact H
          clear H
          have H := H1
          clear H1
          obtain rfl := Option.some.inj H
          go_wp2
          go_ret
          exact ⟨by first | rfl | (simp [errW_none, errW_some] <;> rfl) | (simp [*, errW_none, errW_some] <;> rfl), by repeat (first | (with_reducible first | exact HB.out | apply below_alloc | apply pw_below_drewN | apply below_drew1 | refine below_set ?_ GE317.out | refine below_set ?_ GE318.out) | exact HB.out)⟩

end Go.Proofs.Ytnpnmbfbdnbeoaa.P

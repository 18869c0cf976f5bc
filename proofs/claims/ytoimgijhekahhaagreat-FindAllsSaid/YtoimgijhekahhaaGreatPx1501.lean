-- Laid by a program of this session: the walk of functions of the translation, for this claim.
import Derived.Test.YtoimgijhekahhaaGreatPx0
import Derived.Test.YtoimgijhekahhaaGreatPx15
import Derived.Test.YtoimgijhekahhaaGreatStep
import Derived.Test.YtoimgijhekahhaaGreatPx1102
namespace Go.Proofs.YtoimgijhekahhaaGreat.P
open Go.RowKit Go.Proofs.YtoimgijhekahhaaGreatOwn Go.Proofs.YtoimgijhekahhaaGreatW.PrintWords Go.Proofs.YtoimgijhekahhaaGreatW.PrintLast Go.Proofs.YtoimgijhekahhaaGreatW.PrintMore
attribute [local go_sem] max2_int min2_int max_two min_two max_three min_three max_four min_four
set_option linter.unusedVariables false
set_option linter.unusedSimpArgs false
def sphragisref09_Window.l0 : Nat → List (S37) → List (S37) → Int → Int → Int → Int → Int → Option ((List (S37)) × Int)
 | 0, _, _, _, _, _, _, _ => none
 | k + 1, x0, x7, x8, x237000, x237001, x237002, x237003 => if x8 < (x0.length : Int) then (if 0 ≤ x8 then ((sphragisref08_In.f x237000 x237001 x237002 x237003 ((rd_T37 x0 x8).f1) ((rd_T37 x0 x8).f2)).bind fun t240 => (if t240 = true then (if x7.length < 4398046511104 then (sphragisref09_Window.l0 k x0 (x7 ++ [(⟨(rd_T37 x0 x8).f0, (rd_T37 x0 x8).f1, (rd_T37 x0 x8).f2, (rd_T37 x0 x8).f3⟩ : S37)]) (wrap64 (x8 + 1)) x237000 x237001 x237002 x237003) else (none)) else (sphragisref09_Window.l0 k x0 x7 (wrap64 (x8 + 1)) x237000 x237001 x237002 x237003))) else (none)) else (some (x7, 0))
def sphragisref09_Window.f (k : Nat) (l0 : List (S37)) (a1_0 : Int) (a1_1 : Int) (a1_2 : Int) (a1_3 : Int) : Option ((List (S37)) × Int) := (sphragisref08_RightBox.f a1_0 a1_1 a1_2 a1_3).bind fun t237 => (if t237 = true then (sphragisref09_Window.l0 k l0 ([] : List (S37)) 0 a1_0 a1_1 a1_2 a1_3) else (some (([] : List (S37)), 81)))
theorem sphragisref09_Window.mono_l : ∀ k, (∀ y0 y1 y2 y3 y4 y5 y6, LeO (sphragisref09_Window.l0 k y0 y1 y2 y3 y4 y5 y6) (sphragisref09_Window.l0 (k + 1) y0 y1 y2 y3 y4 y5 y6))
 | 0 => fun _ _ _ _ _ _ _ r h => by simp [sphragisref09_Window.l0] at h
 | k + 1 => by
  have ih0 := sphragisref09_Window.mono_l k
  ·intro y0 y1 y2 y3 y4 y5 y6
   unfold sphragisref09_Window.l0
   repeat' first
   | (with_reducible exact ih0 _ _ _ _ _ _ _)
   | (with_reducible exact LeO.refl _)
   | (with_reducible exact LeO.none _)
   | (with_reducible refine LeO.ite ?_ ?_)
   | (with_reducible refine LeO.bind ?_ (fun _ => ?_))
   | exact ih0 _ _ _ _ _ _ _
   | exact LeO.none _
   | refine LeO.ite ?_ ?_
   | refine LeO.bind ?_ (fun _ => ?_)
theorem sphragisref09_Window.mono : ∀ a0 a1 a2 a3 a4 k, LeO (sphragisref09_Window.f k a0 a1 a2 a3 a4) (sphragisref09_Window.f (k + 1) a0 a1 a2 a3 a4) := by
 intro a0 a1 a2 a3 a4 k
 have ih0 := sphragisref09_Window.mono_l k
 unfold sphragisref09_Window.f
 repeat' first
   | (with_reducible exact ih0 _ _ _ _ _ _ _)
   | (with_reducible exact LeO.refl _)
   | (with_reducible exact LeO.none _)
   | (with_reducible refine LeO.ite ?_ ?_)
   | (with_reducible refine LeO.bind ?_ (fun _ => ?_))
   | exact ih0 _ _ _ _ _ _ _
   | exact LeO.none _
   | refine LeO.ite ?_ ?_
   | refine LeO.bind ?_ (fun _ => ?_)
def sphragisref09_Window.T8 : Bool × List (List Nat × List Nat) := (true, [([], []), ([], []), ([], []), ([1, 2], [1, 2]), ([3], [3]), ([4], [4]), ([], []), ([], []), ([6, 7], [6, 7]), ([8], [8]), ([9], [9]), ([0, 5, 10], [0, 5, 10]), ([11, 11, 0, 1, 2, 3, 4, 5, 6, 7, 8, 9, 10, 11], [11])])
def sphragisref09_Window.B8 : List Nat := [0, 0, 0, 6, 14, 30, 0, 0, 192, 448, 960, 2047, 4095]
theorem sphragisref09_Window.tab8 : rtab .any (opsOf Tryz.f29 8) = sphragisref09_Window.T8 := by kernel_rfl
theorem sphragisref09_Window.bits8 : waitsOk sphragisref09_Window.T8.2 sphragisref09_Window.B8 = true := by kernel_rfl
set_option maxHeartbeats 8000000 in
set_option maxRecDepth 100000 in
theorem sphragisref09_Window.calls (k : Nat) (A0 : Option Addr) (c0 : Nat) (l0 : List (S37)) (a1_0 : Int) (a1_1 : Int) (a1_2 : Int) (a1_3 : Int) (r1 : List (S37)) (r2 : Int) (w : World) (hr0 : Kd.C k37 w A0 l0.length l0) (hc0 : l0.length ≤ c0) (h : sphragisref09_Window.f k l0 a1_0 a1_1 a1_2 a1_3 = some (r1, r2)) :
  Calls Tryz.prog 29 #[.slice A0 l0.length c0, .agg #[.int .u32 a1_0, .int .u32 a1_1, .int .u32 a1_2, .int .u32 a1_3]] w fun e w' => ∃ v0_ : Value, e = .returned (.tuple #[v0_, .int .i64 r2]) ∧ Kd.R k37 37 w' w.heap.size (fun _ => True) v0_ r1 ∧ Below w.heap.size w w' := by
 have hu25 := Tryz.underlying25
 have hu37 := Tryz.underlying37
 have HR0 := Aside0.mk hr0
 have HC0 := Aside0.mk hc0
 clear hr0 hc0
 have HB := Aside0.mk (Below.refl w.heap.size w)
 have H : ((sphragisref08_RightBox.f a1_0 a1_1 a1_2 a1_3).bind fun t237 => (if t237 = true then (sphragisref09_Window.l0 k l0 ([] : List (S37)) 0 a1_0 a1_1 a1_2 a1_3) else (some (([] : List (S37)), 81)))) = some (r1, r2) := h
 clear h
 replace H := Option.bind_eq_some_iff.mp H
 obtain ⟨t237, A30, H⟩ := H
 replace H : (if t237 = true then (sphragisref09_Window.l0 k l0 ([] : List (S37)) 0 a1_0 a1_1 a1_2 a1_3) else (some (([] : List (S37)), 81))) = some (r1, r2) := H
 have A3 := Aside0.mk A30
 clear A30
 by_cases c4 : t237 = true
 ·subst c4
  have H1 : (sphragisref09_Window.l0 k l0 ([] : List (S37)) 0 a1_0 a1_1 a1_2 a1_3) = some (r1, r2) := by rw [if_pos rfl] at H; exact H
  clear H
  have H := H1
  clear H1
  have H' := Aside0.mk H
  clear H
  go_enter Tryz.func29, Tryz.ntmps29
  go_wp2_with (first | ((with_reducible refine gate_dst (N := 3) rfl ?_); refine box_event ?hg (N := 3) ?hd (cs := #[.int .u32 a1_0, .int .u32 a1_1, .int .u32 a1_2, .int .u32 a1_3]) (t := 25) ?hr ?_; (case hd => rfl); (case hg => rfl); (case hr => first | (go_simp; done) | (go_simp; rfl)); intro gb236 hg w5 hbox hb; have n0_ := Aside0.mk (below_step (by repeat (first | (with_reducible first | exact HB.out | apply below_alloc | apply pw_below_drewN | apply below_drew1) | exact HB.out)) hb); have n1_ := Aside0.mk (hbox); have n2_ := Aside0.mk ((by rw [hg]; exact (below_size (by repeat (first | (with_reducible first | exact HB.out | apply below_alloc | apply pw_below_drewN | apply below_drew1) | exact HB.out))) : w.heap.size ≤ gb236)); have n3_ := Aside0.mk ((by rw [hg]; exact (below_size (by repeat (first | (with_reducible first | exact HB.out | apply below_alloc | apply pw_below_drewN | apply below_drew1) | exact HB.out))) : w.heap.size ≤ gb236)); clear HB; have HB := n0_; have BK236 := n1_; have GW236 := n2_; have GE236 := n3_; clear n0_ n1_ n2_ n3_; clear hb hbox hg; have hcz6_0 : w5.cell? ⟨gb236, 0, none⟩ = some (.int .u32 a1_0) := (blk_cell BK236.out 0).trans rfl; have hcz6_1 : w5.cell? ⟨gb236, 1, none⟩ = some (.int .u32 a1_1) := (blk_cell BK236.out 1).trans rfl; have hcz6_2 : w5.cell? ⟨gb236, 2, none⟩ = some (.int .u32 a1_2) := (blk_cell BK236.out 2).trans rfl; have hcz6_3 : w5.cell? ⟨gb236, 3, none⟩ = some (.int .u32 a1_3) := (blk_cell BK236.out 3).trans rfl; have hfz6_0 := blk_frozen BK236.out 0; have hfz6_1 := blk_frozen BK236.out 1; have hfz6_2 := blk_frozen BK236.out 2; have hfz6_3 := blk_frozen BK236.out 3) | ((with_reducible refine gate_callee (f := 27) rfl ?_); refine goesL_ (some 11) rfl rfl Tryz.func27 (by kernel_rfl) rfl #[.agg #[.int .u32 a1_0, .int .u32 a1_1, .int .u32 a1_2, .int .u32 a1_3]] rfl (by (try simp only [List.map_toArray, List.map_cons, List.map_nil]); first | done | rfl | (simp only [List.length_drop, List.length_take]; rfl)) ?_; (with_reducible refine (sphragisref08_RightBox.calls a1_0 a1_1 a1_2 a1_3 true _ A3.out).mono ?_); rintro e w7 ⟨rfl, hb⟩; refine ⟨_, rfl, ?_⟩; have n0_ := Aside0.mk (blk_below (g := gb236) (o := .cells #[.int .u32 a1_0, .int .u32 a1_1, .int .u32 a1_2, .int .u32 a1_3] 25 (0, 0)) (by (with_reducible repeat (first | refine blk_drewN ?_ _ | refine blk_drew ?_ | refine blk_alloc ?_ _)); exact BK236.out) hb); have n1_ := Aside0.mk (below_step (by repeat (first | (with_reducible first | exact HB.out | apply below_alloc | apply pw_below_drewN | apply below_drew1 | refine below_set ?_ GE236.out) | exact HB.out)) hb); clear BK236; clear HB; have BK236 := n0_; have HB := n1_; clear n0_ n1_; (try clear hb); (try clear hb2); (try clear hk); (try clear hi)))
  go_loopg [7, 8] k (fun kq v7 v8 w' => ∃ (x7_1 : List (S37)) (x8_1 : Int), v8 = .int .i64 x8_1 ∧ Aside0 (sphragisref09_Window.l0 kq l0 x7_1 x8_1 a1_0 a1_1 a1_2 a1_3 = some (r1, r2)) ∧ Aside0 (kq ≤ k) ∧ Aside0 (Kd.R k37 37 w' w.heap.size (fun _ => True) v7 x7_1) ∧ Aside0 (w'.heap[gb236]? = some (.cells #[.int .u32 a1_0, .int .u32 a1_1, .int .u32 a1_2, .int .u32 a1_3] 25 (0, 0))) ∧ Aside0 (Below w.heap.size w w'))
  case atStart => exact ⟨(([] : List (S37))), (0), (by first | rfl | (simp; done) | (simp [*]; done)), H', ⟨Nat.le_refl _⟩, ⟨by first | exact Kd.R_nil _ _ _ _ _ | exact Kd.N_nil _ _ _ _ _ | exact Kd.V_nil _ _ _ _ _ | exact Kd.Q_nil _ _ _ _ _ | exact Kd.S_nil _ _ _ _ _⟩, ⟨by (with_reducible repeat (first | refine blk_drewN ?_ _ | refine blk_drew ?_ | refine blk_alloc ?_ _)); exact BK236.out⟩, ⟨by repeat (first | (with_reducible first | exact HB.out | apply below_alloc | apply pw_below_drewN | apply below_drew1 | refine below_set ?_ GE236.out) | exact HB.out)⟩⟩
  case round =>
   clear H'
   try clear c2
   try clear p2
   try clear c4
   try clear hcz6_0
   try clear hcz6_1
   try clear hcz6_2
   try clear hcz6_3
   try clear hfz6_0
   try clear hfz6_1
   try clear hfz6_2
   try clear hfz6_3
   obtain ⟨x7_1, x8_1, rfl, HA, HK1, HO_7, BK236, HB⟩ := hrel
   cases gk with
   | zero => exact absurd HA.out (by simp [sphragisref09_Window.l0])
   | succ k1 =>
    have H := HA.out
    clear HA
    simp only [sphragisref09_Window.l0] at H
    by_cases c8 : x8_1 < (l0.length : Int)
    ·rw [if_pos c8] at H
     have c8b0 : decide (x8_1 < (l0.length : Int)) = true := decide_eq_true c8
     clear c8
     by_cases c9 : 0 ≤ x8_1
     ·rw [if_pos c9] at H
      have c9b0 : decide (0 ≤ x8_1) = true := decide_eq_true c9
      clear c9
      replace H := Option.bind_eq_some_iff.mp H
      obtain ⟨t240, A100, H⟩ := H
      replace H : (if t240 = true then (if x7_1.length < 4398046511104 then (sphragisref09_Window.l0 k1 l0 (x7_1 ++ [(⟨(rd_T37 l0 x8_1).f0, (rd_T37 l0 x8_1).f1, (rd_T37 l0 x8_1).f2, (rd_T37 l0 x8_1).f3⟩ : S37)]) (wrap64 (x8_1 + 1)) a1_0 a1_1 a1_2 a1_3) else (none)) else (sphragisref09_Window.l0 k1 l0 x7_1 (wrap64 (x8_1 + 1)) a1_0 a1_1 a1_2 a1_3)) = some (r1, r2) := H
      have A10 := Aside0.mk A100
      clear A100
      by_cases c11 : t240 = true
      ·subst c11
       have H1 : (if x7_1.length < 4398046511104 then (sphragisref09_Window.l0 k1 l0 (x7_1 ++ [(⟨(rd_T37 l0 x8_1).f0, (rd_T37 l0 x8_1).f1, (rd_T37 l0 x8_1).f2, (rd_T37 l0 x8_1).f3⟩ : S37)]) (wrap64 (x8_1 + 1)) a1_0 a1_1 a1_2 a1_3) else (none)) = some (r1, r2) := by rw [if_pos rfl] at H; exact H
       clear H
       have H := H1
       clear H1
       by_cases c12 : x7_1.length < 4398046511104
       ·rw [if_pos c12] at H
        have LMc12 := Aside0.mk c12
        clear c12
        obtain ⟨y242, hy242⟩ : ∃ y_ : List (S37), y_ = (x7_1 ++ [(⟨(rd_T37 l0 x8_1).f0, (rd_T37 l0 x8_1).f1, (rd_T37 l0 x8_1).f2, (rd_T37 l0 x8_1).f3⟩ : S37)]) := ⟨_, rfl⟩
        replace H : (sphragisref09_Window.l0 k1 l0 y242 (wrap64 (x8_1 + 1)) a1_0 a1_1 a1_2 a1_3) = some (r1, r2) := by first | (rw [hy242]; with_reducible exact H) | (have H2_ := (Option.bind_some _ _).symm.trans H; rw [hy242]; with_reducible exact H2_) | (have H2_ := (Option.bind_some _ _).symm.trans H; with_reducible exact H2_) | with_reducible exact H | (rw [hy242]; exact H) | exact H
        have Ny242 := Aside0.mk hy242
        clear hy242
        have H' := Aside0.mk H
        clear H
        try go_wp2
        have n0_ := Aside0.mk (Kd.R_drew HO_7.out)
        have n1_ := Aside0.mk (blk_drew BK236.out)
        have n2_ := Aside0.mk (below_drew1 HB.out)
        clear HO_7
        clear BK236
        clear HB
        have HO_7 := n0_
        have BK236 := n1_
        have HB := n2_
        clear n0_ n1_ n2_
        have p238 : 0 ≤ (x8_1 : Int) := of_decide_eq_true (by first | (with_reducible assumption) | assumption)
        have q238 : x8_1 < (l0.length : Int) := of_decide_eq_true (by first | (with_reducible assumption) | assumption)
        obtain ⟨ad238, e238, hx238_0, hx238_1, hx238_2, hx238_3⟩ := at_T37 HR0.out x8_1 p238 q238
        have hw238_3 := hx238_3
        have hw238_2 := hx238_2
        have hw238_1 := hx238_1
        have hw238_0 := hx238_0
        cases e238
        replace hx238_0 := (HB.out.cell (World.block_lt_of_cell? w _ hx238_0)).trans hx238_0
        replace hx238_1 := (HB.out.cell (World.block_lt_of_cell? w _ hx238_1)).trans hx238_1
        replace hx238_2 := (HB.out.cell (World.block_lt_of_cell? w _ hx238_2)).trans hx238_2
        replace hx238_3 := (HB.out.cell (World.block_lt_of_cell? w _ hx238_3)).trans hx238_3
        replace p238 := eq_true p238
        replace q238 := eq_true q238
        have p239 : 0 ≤ (x8_1 : Int) := of_decide_eq_true (by first | (with_reducible assumption) | assumption)
        have q239 : x8_1 < (l0.length : Int) := of_decide_eq_true (by first | (with_reducible assumption) | assumption)
        obtain ⟨ad239, e239, hx239_0, hx239_1, hx239_2, hx239_3⟩ := at_T37 HR0.out x8_1 p239 q239
        have hw239_3 := hx239_3
        have hw239_2 := hx239_2
        have hw239_1 := hx239_1
        have hw239_0 := hx239_0
        obtain rfl : ad238 = ad239 := (by injection e239)
        replace hx239_0 := (HB.out.cell (World.block_lt_of_cell? w _ hx239_0)).trans hx239_0
        replace hx239_1 := (HB.out.cell (World.block_lt_of_cell? w _ hx239_1)).trans hx239_1
        replace hx239_2 := (HB.out.cell (World.block_lt_of_cell? w _ hx239_2)).trans hx239_2
        replace hx239_3 := (HB.out.cell (World.block_lt_of_cell? w _ hx239_3)).trans hx239_3
        replace p239 := eq_true p239
        replace q239 := eq_true q239
        refine start_ (n := 13) (S := fun w' => w'.cell? ⟨gb236, 0, none⟩ = some (.int .u32 a1_0) ∧ w'.cell? ⟨gb236, 1, none⟩ = some (.int .u32 a1_1) ∧ w'.cell? ⟨gb236, 2, none⟩ = some (.int .u32 a1_2) ∧ w'.cell? ⟨gb236, 3, none⟩ = some (.int .u32 a1_3) ∧ w'.cell? (ad238.add ((x8_1).toNat * 4)) = some (.int .u64 ((rd_T37 l0 x8_1).f0)) ∧ w'.cell? ⟨(ad238.add ((x8_1).toNat * 4)).block, (ad238.add ((x8_1).toNat * 4)).off + 1, none⟩ = some (.int .u32 ((rd_T37 l0 x8_1).f1)) ∧ w'.cell? ⟨(ad238.add ((x8_1).toNat * 4)).block, (ad238.add ((x8_1).toNat * 4)).off + 2, none⟩ = some (.int .u32 ((rd_T37 l0 x8_1).f2)) ∧ w'.cell? ⟨(ad238.add ((x8_1).toNat * 4)).block, (ad238.add ((x8_1).toNat * 4)).off + 3, none⟩ = some (.string ((rd_T37 l0 x8_1).f3)) ∧ w'.cell? (ad238.add ((x8_1).toNat * 4)) = some (.int .u64 ((rd_T37 l0 x8_1).f0)) ∧ w'.cell? ⟨(ad238.add ((x8_1).toNat * 4)).block, (ad238.add ((x8_1).toNat * 4)).off + 1, none⟩ = some (.int .u32 ((rd_T37 l0 x8_1).f1)) ∧ w'.cell? ⟨(ad238.add ((x8_1).toNat * 4)).block, (ad238.add ((x8_1).toNat * 4)).off + 2, none⟩ = some (.int .u32 ((rd_T37 l0 x8_1).f2)) ∧ w'.cell? ⟨(ad238.add ((x8_1).toNat * 4)).block, (ad238.add ((x8_1).toNat * 4)).off + 3, none⟩ = some (.string ((rd_T37 l0 x8_1).f3))) (ds := []) #[false, false, false, false, false, false, false, false, false, false, false, false, false] (by kernel_rfl) rfl rfl ⟨(blk_cell BK236.out 0).trans rfl, (blk_cell BK236.out 1).trans rfl, (blk_cell BK236.out 2).trans rfl, (blk_cell BK236.out 3).trans rfl, ((HB.out.cell (World.block_lt_of_cell? w _ hw238_0)).trans hw238_0), ((HB.out.cell (World.block_lt_of_cell? w _ hw238_1)).trans hw238_1), ((HB.out.cell (World.block_lt_of_cell? w _ hw238_2)).trans hw238_2), ((HB.out.cell (World.block_lt_of_cell? w _ hw238_3)).trans hw238_3), ((HB.out.cell (World.block_lt_of_cell? w _ hw239_0)).trans hw239_0), ((HB.out.cell (World.block_lt_of_cell? w _ hw239_1)).trans hw239_1), ((HB.out.cell (World.block_lt_of_cell? w _ hw239_2)).trans hw239_2), ((HB.out.cell (World.block_lt_of_cell? w _ hw239_3)).trans hw239_3)⟩ (fun hHeld => ?_); refine with_tabW sphragisref09_Window.tab8 sphragisref09_Window.bits8 (fun HT_ HW_ => ?_)
        generalize wr.drew = w13 at HO_7 BK236 HB hx238_0 hx238_1 hx238_2 hx238_3 hx239_0 hx239_1 hx239_2 hx239_3 hHeld ⊢
        refine pA 1 HT_ ?_
        refine pA 2 HT_ ?_
        refine pA 3 HT_ ?_
        refine pA 4 HT_ ?_
        refine pA 6 HT_ ?_
        refine pA 7 HT_ ?_
        refine pA 8 HT_ ?_
        refine pA 9 HT_ ?_
        refine tA 0 HT_ HW_ ?_
        refine tA 5 HT_ HW_ ?_
        refine tA 10 HT_ HW_ ?_
        refine oA 11 HT_ (fun K hK => ?_)
        refine goes_ Tryz.func45 (by kernel_rfl) rfl #[.agg #[.int .u32 a1_0, .int .u32 a1_1, .int .u32 a1_2, .int .u32 a1_3], .int .u32 ((rd_T37 l0 x8_1).f1), .int .u32 ((rd_T37 l0 x8_1).f2)] (by rfl) rfl rfl (by (try simp only [List.map_toArray, List.map_cons, List.map_nil]); first | done | rfl | (simp only [List.length_drop, List.length_take]; rfl)) ?_
        with_reducible refine (sphragisref08_In.calls a1_0 a1_1 a1_2 a1_3 ((rd_T37 l0 x8_1).f1) ((rd_T37 l0 x8_1).f2) true _ A10.out).mono ?_
        rintro e w14 ⟨rfl, hb⟩
        refine ⟨_, rfl, ?_⟩
        have n0_ := Aside0.mk (Kd.R_below (by (with_reducible repeat (first | apply Kd.R_alloc | apply Kd.R_drewN | apply Kd.R_drew)); exact HO_7.out) hb)
        have n1_ := Aside0.mk (blk_below (g := gb236) (o := .cells #[.int .u32 a1_0, .int .u32 a1_1, .int .u32 a1_2, .int .u32 a1_3] 25 (0, 0)) (by (with_reducible repeat (first | refine blk_drewN ?_ _ | refine blk_drew ?_ | refine blk_alloc ?_ _)); exact BK236.out) hb)
        have n2_ := Aside0.mk (below_step (by repeat (first | (with_reducible first | exact HB.out | apply below_alloc | apply pw_below_drewN | apply below_drew1 | refine below_set ?_ GE236.out) | exact HB.out)) hb)
        clear HO_7
        clear BK236
        clear HB
        have HO_7 := n0_
        have BK236 := n1_
        have HB := n2_
        clear n0_ n1_ n2_
        (try clear hb)
        (try clear hb2)
        (try clear hk)
        (try clear hi)
        refine hK.out _ _ ⟨(blk_cell BK236.out 0).trans rfl, (blk_cell BK236.out 1).trans rfl, (blk_cell BK236.out 2).trans rfl, (blk_cell BK236.out 3).trans rfl, ((HB.out.cell (World.block_lt_of_cell? w _ hw238_0)).trans hw238_0), ((HB.out.cell (World.block_lt_of_cell? w _ hw238_1)).trans hw238_1), ((HB.out.cell (World.block_lt_of_cell? w _ hw238_2)).trans hw238_2), ((HB.out.cell (World.block_lt_of_cell? w _ hw238_3)).trans hw238_3), ((HB.out.cell (World.block_lt_of_cell? w _ hw239_0)).trans hw239_0), ((HB.out.cell (World.block_lt_of_cell? w _ hw239_1)).trans hw239_1), ((HB.out.cell (World.block_lt_of_cell? w _ hw239_2)).trans hw239_2), ((HB.out.cell (World.block_lt_of_cell? w _ hw239_3)).trans hw239_3)⟩ (fun hHeld => ?_)
        clear hK K
        refine norm_ (a' := ?_) ?_ ?_
        rotate_left
        ·show Act.put _ (some 31) _ = _
         simp only [Act.put, List.setIfInBounds_toArray, List.set_cons_zero, List.set_cons_succ, i64_w, i32_w]
         rfl
        refine pA 12 HT_ ?_
        refine done_ (done_of HT_.out (by kernel_rfl)) ?_
        have p241 : 0 ≤ (x8_1 : Int) := of_decide_eq_true (by first | (with_reducible assumption) | assumption)
        have q241 : x8_1 < (l0.length : Int) := of_decide_eq_true (by first | (with_reducible assumption) | assumption)
        obtain ⟨ad241, e241, hx241_0, hx241_1, hx241_2, hx241_3⟩ := at_T37 HR0.out x8_1 p241 q241
        obtain rfl : ad238 = ad241 := (by injection e241)
        replace hx241_0 := (HB.out.cell (World.block_lt_of_cell? w _ hx241_0)).trans hx241_0
        replace hx241_1 := (HB.out.cell (World.block_lt_of_cell? w _ hx241_1)).trans hx241_1
        replace hx241_2 := (HB.out.cell (World.block_lt_of_cell? w _ hx241_2)).trans hx241_2
        replace hx241_3 := (HB.out.cell (World.block_lt_of_cell? w _ hx241_3)).trans hx241_3
        replace p241 := eq_true p241
        replace q241 := eq_true q241
        try go_wp2_with (first | ((with_reducible refine gate_builtin (b := .append) (xs := #[.tmp 33, .tmp 38]) rfl ?_); at_builtin; refine Kd.R_append k37 (w0 := w) w.heap.size rfl (.tmp 33) (.tmp 38) 22 37 (.agg #[(.int .u64 0), (.int .u32 0), (.int .u32 0), (.string ⟨#[]⟩)]) 32 rfl Tryz.underlying22 info37 rfl (by decide) (by omega) u7 x7_1 (⟨(rd_T37 l0 x8_1).f0, (rd_T37 l0 x8_1).f1, (rd_T37 l0 x8_1).f2, (rd_T37 l0 x8_1).f3⟩ : S37) [.int .u64 ((rd_T37 l0 x8_1).f0), .int .u32 ((rd_T37 l0 x8_1).f1), .int .u32 ((rd_T37 l0 x8_1).f2), .string ((rd_T37 l0 x8_1).f3)] (fun _ => True) (fun _ => False) rfl rfl ?aP (fun _ hk => hk.elim) ?aF ?aO ?aB ?aS ?aL ?_; (case aP => exact k37_mkM _ _ _ (⟨(rd_T37 l0 x8_1).f0, (rd_T37 l0 x8_1).f1, (rd_T37 l0 x8_1).f2, (rd_T37 l0 x8_1).f3⟩ : S37)); (case aB => exact (by repeat (first | (with_reducible first | exact HB.out | apply below_alloc | apply pw_below_drewN | apply below_drew1 | refine below_set ?_ GE236.out) | exact HB.out))); (case aF => exact (fun _ _ => trivial)); (case aO => exact (by (with_reducible repeat (first | apply Kd.R_alloc | apply Kd.R_drewN | apply Kd.R_drew)); exact HO_7.out)); (case aS => exact (below_size (by repeat (first | (with_reducible first | exact HB.out | apply below_alloc | apply pw_below_drewN | apply below_drew1 | refine below_set ?_ GE236.out) | exact HB.out)))); (case aL => have := LMc12.out; omega); intro v243 w15 ho hb hg hat; rw [← Ny242.out] at ho; have n0_ := Aside0.mk (blk_grown (g := gb236) (o := .cells #[.int .u32 a1_0, .int .u32 a1_1, .int .u32 a1_2, .int .u32 a1_3] 25 (0, 0)) (by (with_reducible repeat (first | refine blk_drewN ?_ _ | refine blk_drew ?_ | refine blk_alloc ?_ _)); exact BK236.out) hg (Kd.R_ne HO_7.out BK236.out (by decide))); have n1_ := Aside0.mk (hb); have n2_ := Aside0.mk (ho); clear BK236; clear HB; clear HO_7; have BK236 := n0_; have HB := n1_; have HO244 := n2_; clear n0_ n1_ n2_; clear ho hb hg hat))
        go_roundg k1
        case measure => have := HK1.out; omega
        case rel => exact ⟨(y242), (wrap64 (x8_1 + 1)), (by first | rfl | (simp; done) | (simp [*]; done)), H', ⟨by have := HK1.out; omega⟩, ⟨by (with_reducible repeat (first | apply Kd.R_alloc | apply Kd.R_drewN | apply Kd.R_drew)); exact HO244.out⟩, ⟨by (with_reducible repeat (first | refine blk_drewN ?_ _ | refine blk_drew ?_ | refine blk_alloc ?_ _)); exact BK236.out⟩, ⟨by repeat (first | (with_reducible first | exact HB.out | apply below_alloc | apply pw_below_drewN | apply below_drew1 | refine below_set ?_ GE236.out) | exact HB.out)⟩⟩
       ·rw [if_neg c12] at H
        exact absurd H (by simp)
      ·replace c11 := Bool.eq_false_iff.mpr c11
       subst c11
       have H1 : (sphragisref09_Window.l0 k1 l0 x7_1 (wrap64 (x8_1 + 1)) a1_0 a1_1 a1_2 a1_3) = some (r1, r2) := by rw [if_neg (show ¬ (false = true) by decide)] at H; exact H
       clear H
       have H := H1
       clear H1
       have H' := Aside0.mk H
       clear H
       try go_wp2
       have n0_ := Aside0.mk (Kd.R_drew HO_7.out)
       have n1_ := Aside0.mk (blk_drew BK236.out)
       have n2_ := Aside0.mk (below_drew1 HB.out)
       clear HO_7
       clear BK236
       clear HB
       have HO_7 := n0_
       have BK236 := n1_
       have HB := n2_
       clear n0_ n1_ n2_
       have p238 : 0 ≤ (x8_1 : Int) := of_decide_eq_true (by first | (with_reducible assumption) | assumption)
       have q238 : x8_1 < (l0.length : Int) := of_decide_eq_true (by first | (with_reducible assumption) | assumption)
       obtain ⟨ad238, e238, hx238_0, hx238_1, hx238_2, hx238_3⟩ := at_T37 HR0.out x8_1 p238 q238
       have hw238_3 := hx238_3
       have hw238_2 := hx238_2
       have hw238_1 := hx238_1
       have hw238_0 := hx238_0
       cases e238
       replace hx238_0 := (HB.out.cell (World.block_lt_of_cell? w _ hx238_0)).trans hx238_0
       replace hx238_1 := (HB.out.cell (World.block_lt_of_cell? w _ hx238_1)).trans hx238_1
       replace hx238_2 := (HB.out.cell (World.block_lt_of_cell? w _ hx238_2)).trans hx238_2
       replace hx238_3 := (HB.out.cell (World.block_lt_of_cell? w _ hx238_3)).trans hx238_3
       replace p238 := eq_true p238
       replace q238 := eq_true q238
       have p239 : 0 ≤ (x8_1 : Int) := of_decide_eq_true (by first | (with_reducible assumption) | assumption)
       have q239 : x8_1 < (l0.length : Int) := of_decide_eq_true (by first | (with_reducible assumption) | assumption)
       obtain ⟨ad239, e239, hx239_0, hx239_1, hx239_2, hx239_3⟩ := at_T37 HR0.out x8_1 p239 q239
       have hw239_3 := hx239_3
       have hw239_2 := hx239_2
       have hw239_1 := hx239_1
       have hw239_0 := hx239_0
       obtain rfl : ad238 = ad239 := (by injection e239)
       replace hx239_0 := (HB.out.cell (World.block_lt_of_cell? w _ hx239_0)).trans hx239_0
       replace hx239_1 := (HB.out.cell (World.block_lt_of_cell? w _ hx239_1)).trans hx239_1
       replace hx239_2 := (HB.out.cell (World.block_lt_of_cell? w _ hx239_2)).trans hx239_2
       replace hx239_3 := (HB.out.cell (World.block_lt_of_cell? w _ hx239_3)).trans hx239_3
       replace p239 := eq_true p239
       replace q239 := eq_true q239
       refine start_ (n := 13) (S := fun w' => w'.cell? ⟨gb236, 0, none⟩ = some (.int .u32 a1_0) ∧ w'.cell? ⟨gb236, 1, none⟩ = some (.int .u32 a1_1) ∧ w'.cell? ⟨gb236, 2, none⟩ = some (.int .u32 a1_2) ∧ w'.cell? ⟨gb236, 3, none⟩ = some (.int .u32 a1_3) ∧ w'.cell? (ad238.add ((x8_1).toNat * 4)) = some (.int .u64 ((rd_T37 l0 x8_1).f0)) ∧ w'.cell? ⟨(ad238.add ((x8_1).toNat * 4)).block, (ad238.add ((x8_1).toNat * 4)).off + 1, none⟩ = some (.int .u32 ((rd_T37 l0 x8_1).f1)) ∧ w'.cell? ⟨(ad238.add ((x8_1).toNat * 4)).block, (ad238.add ((x8_1).toNat * 4)).off + 2, none⟩ = some (.int .u32 ((rd_T37 l0 x8_1).f2)) ∧ w'.cell? ⟨(ad238.add ((x8_1).toNat * 4)).block, (ad238.add ((x8_1).toNat * 4)).off + 3, none⟩ = some (.string ((rd_T37 l0 x8_1).f3)) ∧ w'.cell? (ad238.add ((x8_1).toNat * 4)) = some (.int .u64 ((rd_T37 l0 x8_1).f0)) ∧ w'.cell? ⟨(ad238.add ((x8_1).toNat * 4)).block, (ad238.add ((x8_1).toNat * 4)).off + 1, none⟩ = some (.int .u32 ((rd_T37 l0 x8_1).f1)) ∧ w'.cell? ⟨(ad238.add ((x8_1).toNat * 4)).block, (ad238.add ((x8_1).toNat * 4)).off + 2, none⟩ = some (.int .u32 ((rd_T37 l0 x8_1).f2)) ∧ w'.cell? ⟨(ad238.add ((x8_1).toNat * 4)).block, (ad238.add ((x8_1).toNat * 4)).off + 3, none⟩ = some (.string ((rd_T37 l0 x8_1).f3))) (ds := []) #[false, false, false, false, false, false, false, false, false, false, false, false, false] (by kernel_rfl) rfl rfl ⟨(blk_cell BK236.out 0).trans rfl, (blk_cell BK236.out 1).trans rfl, (blk_cell BK236.out 2).trans rfl, (blk_cell BK236.out 3).trans rfl, ((HB.out.cell (World.block_lt_of_cell? w _ hw238_0)).trans hw238_0), ((HB.out.cell (World.block_lt_of_cell? w _ hw238_1)).trans hw238_1), ((HB.out.cell (World.block_lt_of_cell? w _ hw238_2)).trans hw238_2), ((HB.out.cell (World.block_lt_of_cell? w _ hw238_3)).trans hw238_3), ((HB.out.cell (World.block_lt_of_cell? w _ hw239_0)).trans hw239_0), ((HB.out.cell (World.block_lt_of_cell? w _ hw239_1)).trans hw239_1), ((HB.out.cell (World.block_lt_of_cell? w _ hw239_2)).trans hw239_2), ((HB.out.cell (World.block_lt_of_cell? w _ hw239_3)).trans hw239_3)⟩ (fun hHeld => ?_); refine with_tabW sphragisref09_Window.tab8 sphragisref09_Window.bits8 (fun HT_ HW_ => ?_)
       generalize wr.drew = w16 at HO_7 BK236 HB hx238_0 hx238_1 hx238_2 hx238_3 hx239_0 hx239_1 hx239_2 hx239_3 hHeld ⊢
       refine pA 1 HT_ ?_
       refine pA 2 HT_ ?_
       refine pA 3 HT_ ?_
       refine pA 4 HT_ ?_
       refine pA 6 HT_ ?_
       refine pA 7 HT_ ?_
       refine pA 8 HT_ ?_
       refine pA 9 HT_ ?_
       refine tA 0 HT_ HW_ ?_
       refine tA 5 HT_ HW_ ?_
       refine tA 10 HT_ HW_ ?_
       refine oA 11 HT_ (fun K hK => ?_)
       refine goes_ Tryz.func45 (by kernel_rfl) rfl #[.agg #[.int .u32 a1_0, .int .u32 a1_1, .int .u32 a1_2, .int .u32 a1_3], .int .u32 ((rd_T37 l0 x8_1).f1), .int .u32 ((rd_T37 l0 x8_1).f2)] (by rfl) rfl rfl (by (try simp only [List.map_toArray, List.map_cons, List.map_nil]); first | done | rfl | (simp only [List.length_drop, List.length_take]; rfl)) ?_
       with_reducible refine (sphragisref08_In.calls a1_0 a1_1 a1_2 a1_3 ((rd_T37 l0 x8_1).f1) ((rd_T37 l0 x8_1).f2) false _ A10.out).mono ?_
       rintro e w17 ⟨rfl, hb⟩
       refine ⟨_, rfl, ?_⟩
       have n0_ := Aside0.mk (Kd.R_below (by (with_reducible repeat (first | apply Kd.R_alloc | apply Kd.R_drewN | apply Kd.R_drew)); exact HO_7.out) hb)
       have n1_ := Aside0.mk (blk_below (g := gb236) (o := .cells #[.int .u32 a1_0, .int .u32 a1_1, .int .u32 a1_2, .int .u32 a1_3] 25 (0, 0)) (by (with_reducible repeat (first | refine blk_drewN ?_ _ | refine blk_drew ?_ | refine blk_alloc ?_ _)); exact BK236.out) hb)
       have n2_ := Aside0.mk (below_step (by repeat (first | (with_reducible first | exact HB.out | apply below_alloc | apply pw_below_drewN | apply below_drew1 | refine below_set ?_ GE236.out) | exact HB.out)) hb)
       clear HO_7
       clear BK236
       clear HB
       have HO_7 := n0_
       have BK236 := n1_
       have HB := n2_
       clear n0_ n1_ n2_
       (try clear hb)
       (try clear hb2)
       (try clear hk)
       (try clear hi)
       refine hK.out _ _ ⟨(blk_cell BK236.out 0).trans rfl, (blk_cell BK236.out 1).trans rfl, (blk_cell BK236.out 2).trans rfl, (blk_cell BK236.out 3).trans rfl, ((HB.out.cell (World.block_lt_of_cell? w _ hw238_0)).trans hw238_0), ((HB.out.cell (World.block_lt_of_cell? w _ hw238_1)).trans hw238_1), ((HB.out.cell (World.block_lt_of_cell? w _ hw238_2)).trans hw238_2), ((HB.out.cell (World.block_lt_of_cell? w _ hw238_3)).trans hw238_3), ((HB.out.cell (World.block_lt_of_cell? w _ hw239_0)).trans hw239_0), ((HB.out.cell (World.block_lt_of_cell? w _ hw239_1)).trans hw239_1), ((HB.out.cell (World.block_lt_of_cell? w _ hw239_2)).trans hw239_2), ((HB.out.cell (World.block_lt_of_cell? w _ hw239_3)).trans hw239_3)⟩ (fun hHeld => ?_)
       clear hK K
       refine norm_ (a' := ?_) ?_ ?_
       rotate_left
       ·show Act.put _ (some 31) _ = _
        simp only [Act.put, List.setIfInBounds_toArray, List.set_cons_zero, List.set_cons_succ, i64_w, i32_w]
        rfl
       refine pA 12 HT_ ?_
       refine done_ (done_of HT_.out (by kernel_rfl)) ?_
       try go_wp2
       go_roundg k1
       case measure => have := HK1.out; omega
       case rel => exact ⟨(x7_1), (wrap64 (x8_1 + 1)), (by first | rfl | (simp; done) | (simp [*]; done)), H', ⟨by have := HK1.out; omega⟩, ⟨by (with_reducible repeat (first | apply Kd.R_alloc | apply Kd.R_drewN | apply Kd.R_drew)); exact HO_7.out⟩, ⟨by (with_reducible repeat (first | refine blk_drewN ?_ _ | refine blk_drew ?_ | refine blk_alloc ?_ _)); exact BK236.out⟩, ⟨by repeat (first | (with_reducible first | exact HB.out | apply below_alloc | apply pw_below_drewN | apply below_drew1 | refine below_set ?_ GE236.out) | exact HB.out)⟩⟩
     ·rw [if_neg c9] at H
      exact absurd H (by simp)
    ·rw [if_neg c8] at H
     have c8b0 : decide (x8_1 < (l0.length : Int)) = false := decide_eq_false c8
     clear c8
     simp only [Option.some.injEq, Prod.mk.injEq] at H
     obtain ⟨rfl, rfl⟩ := H
     go_wp2
     go_ret2
     exact ⟨_, by first | rfl | (simp [errW_none, errW_some] <;> rfl) | (simp [*, errW_none, errW_some] <;> rfl), by (with_reducible repeat (first | apply Kd.R_alloc | apply Kd.R_drewN | apply Kd.R_drew)); exact HO_7.out, by repeat (first | (with_reducible first | exact HB.out | apply below_alloc | apply pw_below_drewN | apply below_drew1 | refine below_set ?_ GE236.out) | exact HB.out)⟩
 ·replace c4 := Bool.eq_false_iff.mpr c4
  subst c4
  have H1 : (some (([] : List (S37)), 81)) = some (r1, r2) := by rw [if_neg (show ¬ (false = true) by decide)] at H; exact H
  clear H
  have H := H1
  clear H1
  simp only [Option.some.injEq, Prod.mk.injEq] at H
  obtain ⟨rfl, rfl⟩ := H
  go_enter Tryz.func29, Tryz.ntmps29
  go_wp2_with (first | ((with_reducible refine gate_dst (N := 3) rfl ?_); refine box_event ?hg (N := 3) ?hd (cs := #[.int .u32 a1_0, .int .u32 a1_1, .int .u32 a1_2, .int .u32 a1_3]) (t := 25) ?hr ?_; (case hd => rfl); (case hg => rfl); (case hr => first | (go_simp; done) | (go_simp; rfl)); intro gb236 hg w18 hbox hb; have n0_ := Aside0.mk (below_step (by repeat (first | (with_reducible first | exact HB.out | apply below_alloc | apply pw_below_drewN | apply below_drew1) | exact HB.out)) hb); have n1_ := Aside0.mk (hbox); have n2_ := Aside0.mk ((by rw [hg]; exact (below_size (by repeat (first | (with_reducible first | exact HB.out | apply below_alloc | apply pw_below_drewN | apply below_drew1) | exact HB.out))) : w.heap.size ≤ gb236)); have n3_ := Aside0.mk ((by rw [hg]; exact (below_size (by repeat (first | (with_reducible first | exact HB.out | apply below_alloc | apply pw_below_drewN | apply below_drew1) | exact HB.out))) : w.heap.size ≤ gb236)); clear HB; have HB := n0_; have BK236 := n1_; have GW236 := n2_; have GE236 := n3_; clear n0_ n1_ n2_ n3_; clear hb hbox hg; have hcz19_0 : w18.cell? ⟨gb236, 0, none⟩ = some (.int .u32 a1_0) := (blk_cell BK236.out 0).trans rfl; have hcz19_1 : w18.cell? ⟨gb236, 1, none⟩ = some (.int .u32 a1_1) := (blk_cell BK236.out 1).trans rfl; have hcz19_2 : w18.cell? ⟨gb236, 2, none⟩ = some (.int .u32 a1_2) := (blk_cell BK236.out 2).trans rfl; have hcz19_3 : w18.cell? ⟨gb236, 3, none⟩ = some (.int .u32 a1_3) := (blk_cell BK236.out 3).trans rfl; have hfz19_0 := blk_frozen BK236.out 0; have hfz19_1 := blk_frozen BK236.out 1; have hfz19_2 := blk_frozen BK236.out 2; have hfz19_3 := blk_frozen BK236.out 3) | ((with_reducible refine gate_callee (f := 27) rfl ?_); refine goesL_ (some 11) rfl rfl Tryz.func27 (by kernel_rfl) rfl #[.agg #[.int .u32 a1_0, .int .u32 a1_1, .int .u32 a1_2, .int .u32 a1_3]] rfl (by (try simp only [List.map_toArray, List.map_cons, List.map_nil]); first | done | rfl | (simp only [List.length_drop, List.length_take]; rfl)) ?_; (with_reducible refine (sphragisref08_RightBox.calls a1_0 a1_1 a1_2 a1_3 false _ A3.out).mono ?_); rintro e w20 ⟨rfl, hb⟩; refine ⟨_, rfl, ?_⟩; have n0_ := Aside0.mk (blk_below (g := gb236) (o := .cells #[.int .u32 a1_0, .int .u32 a1_1, .int .u32 a1_2, .int .u32 a1_3] 25 (0, 0)) (by (with_reducible repeat (first | refine blk_drewN ?_ _ | refine blk_drew ?_ | refine blk_alloc ?_ _)); exact BK236.out) hb); have n1_ := Aside0.mk (below_step (by repeat (first | (with_reducible first | exact HB.out | apply below_alloc | apply pw_below_drewN | apply below_drew1 | refine below_set ?_ GE236.out) | exact HB.out)) hb); clear BK236; clear HB; have BK236 := n0_; have HB := n1_; clear n0_ n1_; (try clear hb); (try clear hb2); (try clear hk); (try clear hi)))
  go_ret2
  exact ⟨_, by first | rfl | (simp [errW_none, errW_some] <;> rfl) | (simp [*, errW_none, errW_some] <;> rfl), by first | exact Kd.R_nil _ _ _ _ _ | exact Kd.N_nil _ _ _ _ _ | exact Kd.V_nil _ _ _ _ _ | exact Kd.Q_nil _ _ _ _ _ | exact Kd.S_nil _ _ _ _ _, by repeat (first | (with_reducible first | exact HB.out | apply below_alloc | apply pw_below_drewN | apply below_drew1 | refine below_set ?_ GE236.out) | exact HB.out)⟩
end Go.Proofs.YtoimgijhekahhaaGreat.P

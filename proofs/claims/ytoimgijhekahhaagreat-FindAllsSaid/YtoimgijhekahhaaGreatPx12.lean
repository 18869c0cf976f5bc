-- Laid by a program of this session: the walk of functions of the translation, for this claim.
import Derived.Test.YtoimgijhekahhaaGreatPx0
import Derived.Test.YtoimgijhekahhaaGreatPx1102
namespace Go.Proofs.YtoimgijhekahhaaGreat.P
open Go.RowKit Go.Proofs.YtoimgijhekahhaaGreatOwn Go.Proofs.YtoimgijhekahhaaGreatW.PrintWords Go.Proofs.YtoimgijhekahhaaGreatW.PrintLast Go.Proofs.YtoimgijhekahhaaGreatW.PrintMore
attribute [local go_sem] max2_int min2_int max_two min_two max_three min_three max_four min_four
set_option linter.unusedVariables false
set_option linter.unusedSimpArgs false
mutual
def sphragisref11_Check.j0 : Nat → Bool → Int → Int → Int → Int → Int → Int → Int → Int → Int → Int → Bool → Option (Int)
 | 0, _, _, _, _, _, _, _, _, _, _, _, _ => none
 | k + 1, x11, x218000, x218001, x218002, x218003, x218004, x218005, x218006, x218007, x218008, x218009, x218010 => if x11 = true then (some 2) else (if x218008 > 64 then (sphragisref11_Check.j1 k true x218000 x218001 x218002 x218003 x218004 x218005 x218006 x218007 x218008 x218009 x218010) else (if x218008 < 0 then (sphragisref11_Check.j1 k true x218000 x218001 x218002 x218003 x218004 x218005 x218006 x218007 x218008 x218009 x218010) else (if x218008 = 0 then (sphragisref11_Check.j1 k (x218000 != 3) x218000 x218001 x218002 x218003 x218004 x218005 x218006 x218007 x218008 x218009 x218010) else (sphragisref11_Check.j1 k false x218000 x218001 x218002 x218003 x218004 x218005 x218006 x218007 x218008 x218009 x218010))))
def sphragisref11_Check.j1 : Nat → Bool → Int → Int → Int → Int → Int → Int → Int → Int → Int → Int → Bool → Option (Int)
 | 0, _, _, _, _, _, _, _, _, _, _, _, _ => none
 | k + 1, x29, x218000, x218001, x218002, x218003, x218004, x218005, x218006, x218007, x218008, x218009, x218010 => if x29 = true then (some 82) else ((sphragisref08_RightBox.f x218001 x218002 x218003 x218004).bind fun t218 => (if x218000 = 1 then (sphragisref11_Check.j2 k (!t218) x218000 x218001 x218002 x218003 x218004 x218005 x218006 x218007 x218008 x218009 x218010) else (sphragisref11_Check.j2 k false x218000 x218001 x218002 x218003 x218004 x218005 x218006 x218007 x218008 x218009 x218010)))
def sphragisref11_Check.j2 : Nat → Bool → Int → Int → Int → Int → Int → Int → Int → Int → Int → Int → Bool → Option (Int)
 | 0, _, _, _, _, _, _, _, _, _, _, _, _ => none
 | k + 1, x39, x218000, x218001, x218002, x218003, x218004, x218005, x218006, x218007, x218008, x218009, x218010 => if x39 = true then (some 81) else (if x218000 = 2 then (if x218005 ≥ 2147483648 then (some 2) else (if x218006 ≥ 2147483648 then (some 2) else (some 0))) else (if x218000 = 3 then (if x218005 ≥ 2147483648 then (some 2) else (if x218006 ≥ 2147483648 then (some 2) else (some 0))) else (some 0)))
end
def sphragisref11_Check.f (k : Nat) (a0_0 : Int) (a0_1 : Int) (a0_2 : Int) (a0_3 : Int) (a0_4 : Int) (a0_5 : Int) (a0_6 : Int) (a0_7 : Int) (a0_8 : Int) (a0_9 : Int) (a0_10 : Bool) : Option (Int) := if a0_0 < 1 then (sphragisref11_Check.j0 k true a0_0 a0_1 a0_2 a0_3 a0_4 a0_5 a0_6 a0_7 a0_8 a0_9 a0_10) else (sphragisref11_Check.j0 k (decide (a0_0 > 4)) a0_0 a0_1 a0_2 a0_3 a0_4 a0_5 a0_6 a0_7 a0_8 a0_9 a0_10)
theorem sphragisref11_Check.mono_l : ∀ k, (∀ y0 y1 y2 y3 y4 y5 y6 y7 y8 y9 y10 y11, LeO (sphragisref11_Check.j0 k y0 y1 y2 y3 y4 y5 y6 y7 y8 y9 y10 y11) (sphragisref11_Check.j0 (k + 1) y0 y1 y2 y3 y4 y5 y6 y7 y8 y9 y10 y11)) ∧ (∀ y0 y1 y2 y3 y4 y5 y6 y7 y8 y9 y10 y11, LeO (sphragisref11_Check.j1 k y0 y1 y2 y3 y4 y5 y6 y7 y8 y9 y10 y11) (sphragisref11_Check.j1 (k + 1) y0 y1 y2 y3 y4 y5 y6 y7 y8 y9 y10 y11)) ∧ (∀ y0 y1 y2 y3 y4 y5 y6 y7 y8 y9 y10 y11, LeO (sphragisref11_Check.j2 k y0 y1 y2 y3 y4 y5 y6 y7 y8 y9 y10 y11) (sphragisref11_Check.j2 (k + 1) y0 y1 y2 y3 y4 y5 y6 y7 y8 y9 y10 y11))
 | 0 => ⟨fun _ _ _ _ _ _ _ _ _ _ _ _ r h => by simp [sphragisref11_Check.j0] at h, fun _ _ _ _ _ _ _ _ _ _ _ _ r h => by simp [sphragisref11_Check.j1] at h, fun _ _ _ _ _ _ _ _ _ _ _ _ r h => by simp [sphragisref11_Check.j2] at h⟩
 | k + 1 => by
  obtain ⟨ih0, ih1, ih2⟩ := sphragisref11_Check.mono_l k
  refine ⟨?_, ?_, ?_⟩
  ·intro y0 y1 y2 y3 y4 y5 y6 y7 y8 y9 y10 y11
   unfold sphragisref11_Check.j0
   repeat' first
   | (with_reducible exact ih0 _ _ _ _ _ _ _ _ _ _ _ _)
   | (with_reducible exact ih1 _ _ _ _ _ _ _ _ _ _ _ _)
   | (with_reducible exact ih2 _ _ _ _ _ _ _ _ _ _ _ _)
   | (with_reducible exact LeO.refl _)
   | (with_reducible exact LeO.none _)
   | (with_reducible refine LeO.ite ?_ ?_)
   | (with_reducible refine LeO.bind ?_ (fun _ => ?_))
   | exact ih0 _ _ _ _ _ _ _ _ _ _ _ _
   | exact ih1 _ _ _ _ _ _ _ _ _ _ _ _
   | exact ih2 _ _ _ _ _ _ _ _ _ _ _ _
   | exact LeO.none _
   | refine LeO.ite ?_ ?_
   | refine LeO.bind ?_ (fun _ => ?_)
  ·intro y0 y1 y2 y3 y4 y5 y6 y7 y8 y9 y10 y11
   unfold sphragisref11_Check.j1
   repeat' first
   | (with_reducible exact ih0 _ _ _ _ _ _ _ _ _ _ _ _)
   | (with_reducible exact ih1 _ _ _ _ _ _ _ _ _ _ _ _)
   | (with_reducible exact ih2 _ _ _ _ _ _ _ _ _ _ _ _)
   | (with_reducible exact LeO.refl _)
   | (with_reducible exact LeO.none _)
   | (with_reducible refine LeO.ite ?_ ?_)
   | (with_reducible refine LeO.bind ?_ (fun _ => ?_))
   | exact ih0 _ _ _ _ _ _ _ _ _ _ _ _
   | exact ih1 _ _ _ _ _ _ _ _ _ _ _ _
   | exact ih2 _ _ _ _ _ _ _ _ _ _ _ _
   | exact LeO.none _
   | refine LeO.ite ?_ ?_
   | refine LeO.bind ?_ (fun _ => ?_)
  ·intro y0 y1 y2 y3 y4 y5 y6 y7 y8 y9 y10 y11
   unfold sphragisref11_Check.j2
   repeat' first
   | (with_reducible exact ih0 _ _ _ _ _ _ _ _ _ _ _ _)
   | (with_reducible exact ih1 _ _ _ _ _ _ _ _ _ _ _ _)
   | (with_reducible exact ih2 _ _ _ _ _ _ _ _ _ _ _ _)
   | (with_reducible exact LeO.refl _)
   | (with_reducible exact LeO.none _)
   | (with_reducible refine LeO.ite ?_ ?_)
   | (with_reducible refine LeO.bind ?_ (fun _ => ?_))
   | exact ih0 _ _ _ _ _ _ _ _ _ _ _ _
   | exact ih1 _ _ _ _ _ _ _ _ _ _ _ _
   | exact ih2 _ _ _ _ _ _ _ _ _ _ _ _
   | exact LeO.none _
   | refine LeO.ite ?_ ?_
   | refine LeO.bind ?_ (fun _ => ?_)
theorem sphragisref11_Check.mono : ∀ a0 a1 a2 a3 a4 a5 a6 a7 a8 a9 a10 k, LeO (sphragisref11_Check.f k a0 a1 a2 a3 a4 a5 a6 a7 a8 a9 a10) (sphragisref11_Check.f (k + 1) a0 a1 a2 a3 a4 a5 a6 a7 a8 a9 a10) := by
 intro a0 a1 a2 a3 a4 a5 a6 a7 a8 a9 a10 k
 obtain ⟨ih0, ih1, ih2⟩ := sphragisref11_Check.mono_l k
 unfold sphragisref11_Check.f
 repeat' first
   | (with_reducible exact ih0 _ _ _ _ _ _ _ _ _ _ _ _)
   | (with_reducible exact ih1 _ _ _ _ _ _ _ _ _ _ _ _)
   | (with_reducible exact ih2 _ _ _ _ _ _ _ _ _ _ _ _)
   | (with_reducible exact LeO.refl _)
   | (with_reducible exact LeO.none _)
   | (with_reducible refine LeO.ite ?_ ?_)
   | (with_reducible refine LeO.bind ?_ (fun _ => ?_))
   | exact ih0 _ _ _ _ _ _ _ _ _ _ _ _
   | exact ih1 _ _ _ _ _ _ _ _ _ _ _ _
   | exact ih2 _ _ _ _ _ _ _ _ _ _ _ _
   | exact LeO.none _
   | refine LeO.ite ?_ ?_
   | refine LeO.bind ?_ (fun _ => ?_)
set_option maxHeartbeats 8000000 in
set_option maxRecDepth 100000 in
theorem sphragisref11_Check.calls (k : Nat) (a0_0 : Int) (a0_1 : Int) (a0_2 : Int) (a0_3 : Int) (a0_4 : Int) (a0_5 : Int) (a0_6 : Int) (a0_7 : Int) (a0_8 : Int) (a0_9 : Int) (a0_10 : Bool) (r : Int) (w : World) (h : sphragisref11_Check.f k a0_0 a0_1 a0_2 a0_3 a0_4 a0_5 a0_6 a0_7 a0_8 a0_9 a0_10 = some r) :
  Calls Tryz.prog 18 #[.agg #[.int .i64 a0_0, .int .u32 a0_1, .int .u32 a0_2, .int .u32 a0_3, .int .u32 a0_4, .int .u32 a0_5, .int .u32 a0_6, .int .u64 a0_7, .int .i64 a0_8, .int .u64 a0_9, .bool a0_10]] w fun e w' => e = .returned (.int .i64 r) ∧ Below w.heap.size w w' := by
 have hu28 := Tryz.underlying28
 have hu25 := Tryz.underlying25
 have HB := Aside0.mk (Below.refl w.heap.size w)
 have H : (if a0_0 < 1 then (sphragisref11_Check.j0 k true a0_0 a0_1 a0_2 a0_3 a0_4 a0_5 a0_6 a0_7 a0_8 a0_9 a0_10) else (sphragisref11_Check.j0 k (decide (a0_0 > 4)) a0_0 a0_1 a0_2 a0_3 a0_4 a0_5 a0_6 a0_7 a0_8 a0_9 a0_10)) = some r := h
 clear h
 have HC2 := Aside0.mk H
 clear H
 go_enter Tryz.func18, Tryz.ntmps18
 go_upto_region 1 with (first | ((with_reducible refine gate_dst (N := 1) rfl ?_); refine box_event ?hg (N := 1) ?hd (cs := #[.int .i64 a0_0, .int .u32 a0_1, .int .u32 a0_2, .int .u32 a0_3, .int .u32 a0_4, .int .u32 a0_5, .int .u32 a0_6, .int .u64 a0_7, .int .i64 a0_8, .int .u64 a0_9, .bool a0_10]) (t := 28) ?hr ?_; (case hd => rfl); (case hg => rfl); (case hr => first | (go_simp; done) | (go_simp; rfl)); intro gb217 hg w3 hbox hb; have n0_ := Aside0.mk (below_step (by repeat (first | (with_reducible first | exact HB.out | apply below_alloc | apply pw_below_drewN | apply below_drew1) | exact HB.out)) hb); have n1_ := Aside0.mk (hbox); have n2_ := Aside0.mk ((by rw [hg]; exact (below_size (by repeat (first | (with_reducible first | exact HB.out | apply below_alloc | apply pw_below_drewN | apply below_drew1) | exact HB.out))) : w.heap.size ≤ gb217)); have n3_ := Aside0.mk ((by rw [hg]; exact (below_size (by repeat (first | (with_reducible first | exact HB.out | apply below_alloc | apply pw_below_drewN | apply below_drew1) | exact HB.out))) : w.heap.size ≤ gb217)); clear HB; have HB := n0_; have BK217 := n1_; have GW217 := n2_; have GE217 := n3_; clear n0_ n1_ n2_ n3_; clear hb hbox hg))
 (try simp only [Act.put, List.setIfInBounds_toArray, List.set_cons_zero, List.set_cons_succ])
 go_cut [11] (fun v11 wc => ∃ (kq : Nat) (x11_1 : Bool), v11 = .bool x11_1 ∧ Aside0 (sphragisref11_Check.j0 kq x11_1 a0_0 a0_1 a0_2 a0_3 a0_4 a0_5 a0_6 a0_7 a0_8 a0_9 a0_10 = some r) ∧ Aside0 (kq ≤ k) ∧ Aside0 (wc.heap[gb217]? = some (.cells #[.int .i64 a0_0, .int .u32 a0_1, .int .u32 a0_2, .int .u32 a0_3, .int .u32 a0_4, .int .u32 a0_5, .int .u32 a0_6, .int .u64 a0_7, .int .i64 a0_8, .int .u64 a0_9, .bool a0_10] 28 (0, 0))) ∧ Aside0 (Below w.heap.size w wc))
 case first =>
  have H := HC2.out
  clear HC2
  by_cases c4 : a0_0 < 1
  ·rw [if_pos c4] at H
   have c4b0 : decide (a0_0 < 1) = true := decide_eq_true c4
   clear c4
   (first | rw [c4b0] | (simp only [i64_w, i32_w]; rw [c4b0]) | skip)
   have H' := Aside0.mk H
   clear H
   have hcz5_0 : w3.cell? ⟨gb217, 0, none⟩ = some (.int .i64 a0_0) := (blk_cell BK217.out 0).trans rfl
   have hcz5_1 : w3.cell? ⟨gb217, 1, none⟩ = some (.int .u32 a0_1) := (blk_cell BK217.out 1).trans rfl
   have hcz5_2 : w3.cell? ⟨gb217, 2, none⟩ = some (.int .u32 a0_2) := (blk_cell BK217.out 2).trans rfl
   have hcz5_3 : w3.cell? ⟨gb217, 3, none⟩ = some (.int .u32 a0_3) := (blk_cell BK217.out 3).trans rfl
   have hcz5_4 : w3.cell? ⟨gb217, 4, none⟩ = some (.int .u32 a0_4) := (blk_cell BK217.out 4).trans rfl
   have hcz5_5 : w3.cell? ⟨gb217, 5, none⟩ = some (.int .u32 a0_5) := (blk_cell BK217.out 5).trans rfl
   have hcz5_6 : w3.cell? ⟨gb217, 6, none⟩ = some (.int .u32 a0_6) := (blk_cell BK217.out 6).trans rfl
   have hcz5_7 : w3.cell? ⟨gb217, 7, none⟩ = some (.int .u64 a0_7) := (blk_cell BK217.out 7).trans rfl
   have hcz5_8 : w3.cell? ⟨gb217, 8, none⟩ = some (.int .i64 a0_8) := (blk_cell BK217.out 8).trans rfl
   have hcz5_9 : w3.cell? ⟨gb217, 9, none⟩ = some (.int .u64 a0_9) := (blk_cell BK217.out 9).trans rfl
   have hcz5_10 : w3.cell? ⟨gb217, 10, none⟩ = some (.bool a0_10) := (blk_cell BK217.out 10).trans rfl
   have hfz5_0 := blk_frozen BK217.out 0
   have hfz5_1 := blk_frozen BK217.out 1
   have hfz5_2 := blk_frozen BK217.out 2
   have hfz5_3 := blk_frozen BK217.out 3
   have hfz5_4 := blk_frozen BK217.out 4
   have hfz5_5 := blk_frozen BK217.out 5
   have hfz5_6 := blk_frozen BK217.out 6
   have hfz5_7 := blk_frozen BK217.out 7
   have hfz5_8 := blk_frozen BK217.out 8
   have hfz5_9 := blk_frozen BK217.out 9
   have hfz5_10 := blk_frozen BK217.out 10
   go_wp2
   go_meet
   case rel => exact ⟨_, (true), (by first | rfl | (simp; done) | (simp [*]; done)), H', ⟨by first | omega | exact Nat.le_refl _⟩, ⟨by (with_reducible repeat (first | refine blk_drewN ?_ _ | refine blk_drew ?_ | refine blk_alloc ?_ _)); exact BK217.out⟩, ⟨by repeat (first | (with_reducible first | exact HB.out | apply below_alloc | apply pw_below_drewN | apply below_drew1 | refine below_set ?_ GE217.out) | exact HB.out)⟩⟩
  ·rw [if_neg c4] at H
   have c4b0 : decide (a0_0 < 1) = false := decide_eq_false c4
   clear c4
   (first | rw [c4b0] | (simp only [i64_w, i32_w]; rw [c4b0]) | skip)
   have H' := Aside0.mk H
   clear H
   have hcz6_0 : w3.cell? ⟨gb217, 0, none⟩ = some (.int .i64 a0_0) := (blk_cell BK217.out 0).trans rfl
   have hcz6_1 : w3.cell? ⟨gb217, 1, none⟩ = some (.int .u32 a0_1) := (blk_cell BK217.out 1).trans rfl
   have hcz6_2 : w3.cell? ⟨gb217, 2, none⟩ = some (.int .u32 a0_2) := (blk_cell BK217.out 2).trans rfl
   have hcz6_3 : w3.cell? ⟨gb217, 3, none⟩ = some (.int .u32 a0_3) := (blk_cell BK217.out 3).trans rfl
   have hcz6_4 : w3.cell? ⟨gb217, 4, none⟩ = some (.int .u32 a0_4) := (blk_cell BK217.out 4).trans rfl
   have hcz6_5 : w3.cell? ⟨gb217, 5, none⟩ = some (.int .u32 a0_5) := (blk_cell BK217.out 5).trans rfl
   have hcz6_6 : w3.cell? ⟨gb217, 6, none⟩ = some (.int .u32 a0_6) := (blk_cell BK217.out 6).trans rfl
   have hcz6_7 : w3.cell? ⟨gb217, 7, none⟩ = some (.int .u64 a0_7) := (blk_cell BK217.out 7).trans rfl
   have hcz6_8 : w3.cell? ⟨gb217, 8, none⟩ = some (.int .i64 a0_8) := (blk_cell BK217.out 8).trans rfl
   have hcz6_9 : w3.cell? ⟨gb217, 9, none⟩ = some (.int .u64 a0_9) := (blk_cell BK217.out 9).trans rfl
   have hcz6_10 : w3.cell? ⟨gb217, 10, none⟩ = some (.bool a0_10) := (blk_cell BK217.out 10).trans rfl
   have hfz6_0 := blk_frozen BK217.out 0
   have hfz6_1 := blk_frozen BK217.out 1
   have hfz6_2 := blk_frozen BK217.out 2
   have hfz6_3 := blk_frozen BK217.out 3
   have hfz6_4 := blk_frozen BK217.out 4
   have hfz6_5 := blk_frozen BK217.out 5
   have hfz6_6 := blk_frozen BK217.out 6
   have hfz6_7 := blk_frozen BK217.out 7
   have hfz6_8 := blk_frozen BK217.out 8
   have hfz6_9 := blk_frozen BK217.out 9
   have hfz6_10 := blk_frozen BK217.out 10
   go_wp2
   go_meet
   case rel => exact ⟨_, (decide (a0_0 > 4)), (by first | rfl | (simp; done) | (simp [*]; done)), H', ⟨by first | omega | exact Nat.le_refl _⟩, ⟨by (with_reducible repeat (first | refine blk_drewN ?_ _ | refine blk_drew ?_ | refine blk_alloc ?_ _)); exact BK217.out⟩, ⟨by repeat (first | (with_reducible first | exact HB.out | apply below_alloc | apply pw_below_drewN | apply below_drew1 | refine below_set ?_ GE217.out) | exact HB.out)⟩⟩
 case rest =>
  clear HC2
  try clear c1
  try clear p2
  try clear c4
  try clear c4b0
  try clear hcz5_0
  try clear hcz5_1
  try clear hcz5_10
  try clear hcz5_2
  try clear hcz5_3
  try clear hcz5_4
  try clear hcz5_5
  try clear hcz5_6
  try clear hcz5_7
  try clear hcz5_8
  try clear hcz5_9
  try clear hcz6_0
  try clear hcz6_1
  try clear hcz6_10
  try clear hcz6_2
  try clear hcz6_3
  try clear hcz6_4
  try clear hcz6_5
  try clear hcz6_6
  try clear hcz6_7
  try clear hcz6_8
  try clear hcz6_9
  try clear hfz5_0
  try clear hfz5_1
  try clear hfz5_10
  try clear hfz5_2
  try clear hfz5_3
  try clear hfz5_4
  try clear hfz5_5
  try clear hfz5_6
  try clear hfz5_7
  try clear hfz5_8
  try clear hfz5_9
  try clear hfz6_0
  try clear hfz6_1
  try clear hfz6_10
  try clear hfz6_2
  try clear hfz6_3
  try clear hfz6_4
  try clear hfz6_5
  try clear hfz6_6
  try clear hfz6_7
  try clear hfz6_8
  try clear hfz6_9
  obtain ⟨kq, x11_1, rfl, HA, HJ1, BK217, HB⟩ := hcut
  cases kq with
  | zero => exact absurd HA.out (by simp [sphragisref11_Check.j0])
  | succ kj1 =>
   have H := HA.out
   clear HA
   simp only [sphragisref11_Check.j0] at H
   by_cases c7 : x11_1 = true
   ·subst c7
    have H1 : (some 2) = some r := by rw [if_pos rfl] at H; exact H
    clear H
    have H := H1
    clear H1
    obtain rfl := Option.some.inj H
    go_wp2
    go_ret
    exact ⟨by first | rfl | (simp [errW_none, errW_some] <;> rfl) | (simp [*, errW_none, errW_some] <;> rfl), by repeat (first | (with_reducible first | exact HB.out | apply below_alloc | apply pw_below_drewN | apply below_drew1 | refine below_set ?_ GE217.out) | exact HB.out)⟩
   ·replace c7 := Bool.eq_false_iff.mpr c7
    subst c7
    have H1 : (if a0_8 > 64 then (sphragisref11_Check.j1 kj1 true a0_0 a0_1 a0_2 a0_3 a0_4 a0_5 a0_6 a0_7 a0_8 a0_9 a0_10) else (if a0_8 < 0 then (sphragisref11_Check.j1 kj1 true a0_0 a0_1 a0_2 a0_3 a0_4 a0_5 a0_6 a0_7 a0_8 a0_9 a0_10) else (if a0_8 = 0 then (sphragisref11_Check.j1 kj1 (a0_0 != 3) a0_0 a0_1 a0_2 a0_3 a0_4 a0_5 a0_6 a0_7 a0_8 a0_9 a0_10) else (sphragisref11_Check.j1 kj1 false a0_0 a0_1 a0_2 a0_3 a0_4 a0_5 a0_6 a0_7 a0_8 a0_9 a0_10)))) = some r := by rw [if_neg (show ¬ (false = true) by decide)] at H; exact H
    clear H
    have H := H1
    clear H1
    have HC8 := Aside0.mk H
    clear H
    go_upto_region 3 with (fail)
    go_cut [29] (fun v29 wc => ∃ (kq : Nat) (x29_7 : Bool), v29 = .bool x29_7 ∧ Aside0 (sphragisref11_Check.j1 kq x29_7 a0_0 a0_1 a0_2 a0_3 a0_4 a0_5 a0_6 a0_7 a0_8 a0_9 a0_10 = some r) ∧ Aside0 (kq ≤ kj1) ∧ Aside0 (wc.heap[gb217]? = some (.cells #[.int .i64 a0_0, .int .u32 a0_1, .int .u32 a0_2, .int .u32 a0_3, .int .u32 a0_4, .int .u32 a0_5, .int .u32 a0_6, .int .u64 a0_7, .int .i64 a0_8, .int .u64 a0_9, .bool a0_10] 28 (0, 0))) ∧ Aside0 (Below w.heap.size w wc))
    case first =>
     have H := HC8.out
     clear HC8
     by_cases c9 : a0_8 > 64
     ·rw [if_pos c9] at H
      have c9b0 : decide (64 < a0_8) = true := decide_eq_true c9
      clear c9
      (first | rw [c9b0] | (simp only [i64_w, i32_w]; rw [c9b0]) | skip)
      have H' := Aside0.mk H
      clear H
      have hcz10_0 : wc.cell? ⟨gb217, 0, none⟩ = some (.int .i64 a0_0) := (blk_cell BK217.out 0).trans rfl
      have hcz10_1 : wc.cell? ⟨gb217, 1, none⟩ = some (.int .u32 a0_1) := (blk_cell BK217.out 1).trans rfl
      have hcz10_2 : wc.cell? ⟨gb217, 2, none⟩ = some (.int .u32 a0_2) := (blk_cell BK217.out 2).trans rfl
      have hcz10_3 : wc.cell? ⟨gb217, 3, none⟩ = some (.int .u32 a0_3) := (blk_cell BK217.out 3).trans rfl
      have hcz10_4 : wc.cell? ⟨gb217, 4, none⟩ = some (.int .u32 a0_4) := (blk_cell BK217.out 4).trans rfl
      have hcz10_5 : wc.cell? ⟨gb217, 5, none⟩ = some (.int .u32 a0_5) := (blk_cell BK217.out 5).trans rfl
      have hcz10_6 : wc.cell? ⟨gb217, 6, none⟩ = some (.int .u32 a0_6) := (blk_cell BK217.out 6).trans rfl
      have hcz10_7 : wc.cell? ⟨gb217, 7, none⟩ = some (.int .u64 a0_7) := (blk_cell BK217.out 7).trans rfl
      have hcz10_8 : wc.cell? ⟨gb217, 8, none⟩ = some (.int .i64 a0_8) := (blk_cell BK217.out 8).trans rfl
      have hcz10_9 : wc.cell? ⟨gb217, 9, none⟩ = some (.int .u64 a0_9) := (blk_cell BK217.out 9).trans rfl
      have hcz10_10 : wc.cell? ⟨gb217, 10, none⟩ = some (.bool a0_10) := (blk_cell BK217.out 10).trans rfl
      have hfz10_0 := blk_frozen BK217.out 0
      have hfz10_1 := blk_frozen BK217.out 1
      have hfz10_2 := blk_frozen BK217.out 2
      have hfz10_3 := blk_frozen BK217.out 3
      have hfz10_4 := blk_frozen BK217.out 4
      have hfz10_5 := blk_frozen BK217.out 5
      have hfz10_6 := blk_frozen BK217.out 6
      have hfz10_7 := blk_frozen BK217.out 7
      have hfz10_8 := blk_frozen BK217.out 8
      have hfz10_9 := blk_frozen BK217.out 9
      have hfz10_10 := blk_frozen BK217.out 10
      go_wp2
      go_meet
      case rel => exact ⟨_, (true), (by first | rfl | (simp; done) | (simp [*]; done)), H', ⟨by have := HJ1.out; first | omega | exact Nat.le_refl _⟩, ⟨by (with_reducible repeat (first | refine blk_drewN ?_ _ | refine blk_drew ?_ | refine blk_alloc ?_ _)); exact BK217.out⟩, ⟨by repeat (first | (with_reducible first | exact HB.out | apply below_alloc | apply pw_below_drewN | apply below_drew1 | refine below_set ?_ GE217.out) | exact HB.out)⟩⟩
     ·rw [if_neg c9] at H
      have c9b0 : decide (64 < a0_8) = false := decide_eq_false c9
      clear c9
      (first | rw [c9b0] | (simp only [i64_w, i32_w]; rw [c9b0]) | skip)
      by_cases c11 : a0_8 < 0
      ·rw [if_pos c11] at H
       have c11b0 : decide (a0_8 < 0) = true := decide_eq_true c11
       clear c11
       have H' := Aside0.mk H
       clear H
       have hcz12_0 : wc.cell? ⟨gb217, 0, none⟩ = some (.int .i64 a0_0) := (blk_cell BK217.out 0).trans rfl
       have hcz12_1 : wc.cell? ⟨gb217, 1, none⟩ = some (.int .u32 a0_1) := (blk_cell BK217.out 1).trans rfl
       have hcz12_2 : wc.cell? ⟨gb217, 2, none⟩ = some (.int .u32 a0_2) := (blk_cell BK217.out 2).trans rfl
       have hcz12_3 : wc.cell? ⟨gb217, 3, none⟩ = some (.int .u32 a0_3) := (blk_cell BK217.out 3).trans rfl
       have hcz12_4 : wc.cell? ⟨gb217, 4, none⟩ = some (.int .u32 a0_4) := (blk_cell BK217.out 4).trans rfl
       have hcz12_5 : wc.cell? ⟨gb217, 5, none⟩ = some (.int .u32 a0_5) := (blk_cell BK217.out 5).trans rfl
       have hcz12_6 : wc.cell? ⟨gb217, 6, none⟩ = some (.int .u32 a0_6) := (blk_cell BK217.out 6).trans rfl
       have hcz12_7 : wc.cell? ⟨gb217, 7, none⟩ = some (.int .u64 a0_7) := (blk_cell BK217.out 7).trans rfl
       have hcz12_8 : wc.cell? ⟨gb217, 8, none⟩ = some (.int .i64 a0_8) := (blk_cell BK217.out 8).trans rfl
       have hcz12_9 : wc.cell? ⟨gb217, 9, none⟩ = some (.int .u64 a0_9) := (blk_cell BK217.out 9).trans rfl
       have hcz12_10 : wc.cell? ⟨gb217, 10, none⟩ = some (.bool a0_10) := (blk_cell BK217.out 10).trans rfl
       have hfz12_0 := blk_frozen BK217.out 0
       have hfz12_1 := blk_frozen BK217.out 1
       have hfz12_2 := blk_frozen BK217.out 2
       have hfz12_3 := blk_frozen BK217.out 3
       have hfz12_4 := blk_frozen BK217.out 4
       have hfz12_5 := blk_frozen BK217.out 5
       have hfz12_6 := blk_frozen BK217.out 6
       have hfz12_7 := blk_frozen BK217.out 7
       have hfz12_8 := blk_frozen BK217.out 8
       have hfz12_9 := blk_frozen BK217.out 9
       have hfz12_10 := blk_frozen BK217.out 10
       go_wp2
       go_meet
       case rel => exact ⟨_, (true), (by first | rfl | (simp; done) | (simp [*]; done)), H', ⟨by have := HJ1.out; first | omega | exact Nat.le_refl _⟩, ⟨by (with_reducible repeat (first | refine blk_drewN ?_ _ | refine blk_drew ?_ | refine blk_alloc ?_ _)); exact BK217.out⟩, ⟨by repeat (first | (with_reducible first | exact HB.out | apply below_alloc | apply pw_below_drewN | apply below_drew1 | refine below_set ?_ GE217.out) | exact HB.out)⟩⟩
      ·rw [if_neg c11] at H
       have c11b0 : decide (a0_8 < 0) = false := decide_eq_false c11
       clear c11
       by_cases c13 : a0_8 = 0
       ·rw [if_pos c13] at H
        have c13b0 : (a0_8 == 0) = true := beq_iff_eq.mpr c13
        have c13b1 : (a0_8 != 0) = false := bne_eq_false_iff_eq.mpr c13
        clear c13
        have H' := Aside0.mk H
        clear H
        have hcz14_0 : wc.cell? ⟨gb217, 0, none⟩ = some (.int .i64 a0_0) := (blk_cell BK217.out 0).trans rfl
        have hcz14_1 : wc.cell? ⟨gb217, 1, none⟩ = some (.int .u32 a0_1) := (blk_cell BK217.out 1).trans rfl
        have hcz14_2 : wc.cell? ⟨gb217, 2, none⟩ = some (.int .u32 a0_2) := (blk_cell BK217.out 2).trans rfl
        have hcz14_3 : wc.cell? ⟨gb217, 3, none⟩ = some (.int .u32 a0_3) := (blk_cell BK217.out 3).trans rfl
        have hcz14_4 : wc.cell? ⟨gb217, 4, none⟩ = some (.int .u32 a0_4) := (blk_cell BK217.out 4).trans rfl
        have hcz14_5 : wc.cell? ⟨gb217, 5, none⟩ = some (.int .u32 a0_5) := (blk_cell BK217.out 5).trans rfl
        have hcz14_6 : wc.cell? ⟨gb217, 6, none⟩ = some (.int .u32 a0_6) := (blk_cell BK217.out 6).trans rfl
        have hcz14_7 : wc.cell? ⟨gb217, 7, none⟩ = some (.int .u64 a0_7) := (blk_cell BK217.out 7).trans rfl
        have hcz14_8 : wc.cell? ⟨gb217, 8, none⟩ = some (.int .i64 a0_8) := (blk_cell BK217.out 8).trans rfl
        have hcz14_9 : wc.cell? ⟨gb217, 9, none⟩ = some (.int .u64 a0_9) := (blk_cell BK217.out 9).trans rfl
        have hcz14_10 : wc.cell? ⟨gb217, 10, none⟩ = some (.bool a0_10) := (blk_cell BK217.out 10).trans rfl
        have hfz14_0 := blk_frozen BK217.out 0
        have hfz14_1 := blk_frozen BK217.out 1
        have hfz14_2 := blk_frozen BK217.out 2
        have hfz14_3 := blk_frozen BK217.out 3
        have hfz14_4 := blk_frozen BK217.out 4
        have hfz14_5 := blk_frozen BK217.out 5
        have hfz14_6 := blk_frozen BK217.out 6
        have hfz14_7 := blk_frozen BK217.out 7
        have hfz14_8 := blk_frozen BK217.out 8
        have hfz14_9 := blk_frozen BK217.out 9
        have hfz14_10 := blk_frozen BK217.out 10
        go_wp2
        go_meet
        case rel => exact ⟨_, ((a0_0 != 3)), (by first | rfl | (simp; done) | (simp [*]; done)), H', ⟨by have := HJ1.out; first | omega | exact Nat.le_refl _⟩, ⟨by (with_reducible repeat (first | refine blk_drewN ?_ _ | refine blk_drew ?_ | refine blk_alloc ?_ _)); exact BK217.out⟩, ⟨by repeat (first | (with_reducible first | exact HB.out | apply below_alloc | apply pw_below_drewN | apply below_drew1 | refine below_set ?_ GE217.out) | exact HB.out)⟩⟩
       ·rw [if_neg c13] at H
        have c13b0 : (a0_8 == 0) = false := beq_eq_false_iff_ne.mpr c13
        have c13b1 : (a0_8 != 0) = true := bne_iff_ne.mpr c13
        have H' := Aside0.mk H
        clear H
        have hcz15_0 : wc.cell? ⟨gb217, 0, none⟩ = some (.int .i64 a0_0) := (blk_cell BK217.out 0).trans rfl
        have hcz15_1 : wc.cell? ⟨gb217, 1, none⟩ = some (.int .u32 a0_1) := (blk_cell BK217.out 1).trans rfl
        have hcz15_2 : wc.cell? ⟨gb217, 2, none⟩ = some (.int .u32 a0_2) := (blk_cell BK217.out 2).trans rfl
        have hcz15_3 : wc.cell? ⟨gb217, 3, none⟩ = some (.int .u32 a0_3) := (blk_cell BK217.out 3).trans rfl
        have hcz15_4 : wc.cell? ⟨gb217, 4, none⟩ = some (.int .u32 a0_4) := (blk_cell BK217.out 4).trans rfl
        have hcz15_5 : wc.cell? ⟨gb217, 5, none⟩ = some (.int .u32 a0_5) := (blk_cell BK217.out 5).trans rfl
        have hcz15_6 : wc.cell? ⟨gb217, 6, none⟩ = some (.int .u32 a0_6) := (blk_cell BK217.out 6).trans rfl
        have hcz15_7 : wc.cell? ⟨gb217, 7, none⟩ = some (.int .u64 a0_7) := (blk_cell BK217.out 7).trans rfl
        have hcz15_8 : wc.cell? ⟨gb217, 8, none⟩ = some (.int .i64 a0_8) := (blk_cell BK217.out 8).trans rfl
        have hcz15_9 : wc.cell? ⟨gb217, 9, none⟩ = some (.int .u64 a0_9) := (blk_cell BK217.out 9).trans rfl
        have hcz15_10 : wc.cell? ⟨gb217, 10, none⟩ = some (.bool a0_10) := (blk_cell BK217.out 10).trans rfl
        have hfz15_0 := blk_frozen BK217.out 0
        have hfz15_1 := blk_frozen BK217.out 1
        have hfz15_2 := blk_frozen BK217.out 2
        have hfz15_3 := blk_frozen BK217.out 3
        have hfz15_4 := blk_frozen BK217.out 4
        have hfz15_5 := blk_frozen BK217.out 5
        have hfz15_6 := blk_frozen BK217.out 6
        have hfz15_7 := blk_frozen BK217.out 7
        have hfz15_8 := blk_frozen BK217.out 8
        have hfz15_9 := blk_frozen BK217.out 9
        have hfz15_10 := blk_frozen BK217.out 10
        go_wp2
        go_meet
        case rel => exact ⟨_, (false), (by first | rfl | (simp; done) | (simp [*]; done)), H', ⟨by have := HJ1.out; first | omega | exact Nat.le_refl _⟩, ⟨by (with_reducible repeat (first | refine blk_drewN ?_ _ | refine blk_drew ?_ | refine blk_alloc ?_ _)); exact BK217.out⟩, ⟨by repeat (first | (with_reducible first | exact HB.out | apply below_alloc | apply pw_below_drewN | apply below_drew1 | refine below_set ?_ GE217.out) | exact HB.out)⟩⟩
    case rest =>
     clear HC8
     try clear c1
     try clear p2
     try clear c4
     try clear c4b0
     try clear c7
     try clear c9
     try clear c9b0
     try clear c11
     try clear c11b0
     try clear c13
     try clear c13b0
     try clear c13b1
     try clear hcz10_0
     try clear hcz10_1
     try clear hcz10_10
     try clear hcz10_2
     try clear hcz10_3
     try clear hcz10_4
     try clear hcz10_5
     try clear hcz10_6
     try clear hcz10_7
     try clear hcz10_8
     try clear hcz10_9
     try clear hcz12_0
     try clear hcz12_1
     try clear hcz12_10
     try clear hcz12_2
     try clear hcz12_3
     try clear hcz12_4
     try clear hcz12_5
     try clear hcz12_6
     try clear hcz12_7
     try clear hcz12_8
     try clear hcz12_9
     try clear hcz14_0
     try clear hcz14_1
     try clear hcz14_10
     try clear hcz14_2
     try clear hcz14_3
     try clear hcz14_4
     try clear hcz14_5
     try clear hcz14_6
     try clear hcz14_7
     try clear hcz14_8
     try clear hcz14_9
     try clear hcz15_0
     try clear hcz15_1
     try clear hcz15_10
     try clear hcz15_2
     try clear hcz15_3
     try clear hcz15_4
     try clear hcz15_5
     try clear hcz15_6
     try clear hcz15_7
     try clear hcz15_8
     try clear hcz15_9
     try clear hcz5_0
     try clear hcz5_1
     try clear hcz5_10
     try clear hcz5_2
     try clear hcz5_3
     try clear hcz5_4
     try clear hcz5_5
     try clear hcz5_6
     try clear hcz5_7
     try clear hcz5_8
     try clear hcz5_9
     try clear hcz6_0
     try clear hcz6_1
     try clear hcz6_10
     try clear hcz6_2
     try clear hcz6_3
     try clear hcz6_4
     try clear hcz6_5
     try clear hcz6_6
     try clear hcz6_7
     try clear hcz6_8
     try clear hcz6_9
     try clear hfz10_0
     try clear hfz10_1
     try clear hfz10_10
     try clear hfz10_2
     try clear hfz10_3
     try clear hfz10_4
     try clear hfz10_5
     try clear hfz10_6
     try clear hfz10_7
     try clear hfz10_8
     try clear hfz10_9
     try clear hfz12_0
     try clear hfz12_1
     try clear hfz12_10
     try clear hfz12_2
     try clear hfz12_3
     try clear hfz12_4
     try clear hfz12_5
     try clear hfz12_6
     try clear hfz12_7
     try clear hfz12_8
     try clear hfz12_9
     try clear hfz14_0
     try clear hfz14_1
     try clear hfz14_10
     try clear hfz14_2
     try clear hfz14_3
     try clear hfz14_4
     try clear hfz14_5
     try clear hfz14_6
     try clear hfz14_7
     try clear hfz14_8
     try clear hfz14_9
     try clear hfz15_0
     try clear hfz15_1
     try clear hfz15_10
     try clear hfz15_2
     try clear hfz15_3
     try clear hfz15_4
     try clear hfz15_5
     try clear hfz15_6
     try clear hfz15_7
     try clear hfz15_8
     try clear hfz15_9
     try clear hfz5_0
     try clear hfz5_1
     try clear hfz5_10
     try clear hfz5_2
     try clear hfz5_3
     try clear hfz5_4
     try clear hfz5_5
     try clear hfz5_6
     try clear hfz5_7
     try clear hfz5_8
     try clear hfz5_9
     try clear hfz6_0
     try clear hfz6_1
     try clear hfz6_10
     try clear hfz6_2
     try clear hfz6_3
     try clear hfz6_4
     try clear hfz6_5
     try clear hfz6_6
     try clear hfz6_7
     try clear hfz6_8
     try clear hfz6_9
     try clear p2
     obtain ⟨kq, x29_7, rfl, HA, HJ7, BK217, HB⟩ := hcut
     cases kq with
     | zero => exact absurd HA.out (by simp [sphragisref11_Check.j1])
     | succ kj7 =>
      have H := HA.out
      clear HA
      simp only [sphragisref11_Check.j1] at H
      by_cases c16 : x29_7 = true
      ·subst c16
       have H1 : (some 82) = some r := by rw [if_pos rfl] at H; exact H
       clear H
       have H := H1
       clear H1
       obtain rfl := Option.some.inj H
       go_wp2
       go_ret
       exact ⟨by first | rfl | (simp [errW_none, errW_some] <;> rfl) | (simp [*, errW_none, errW_some] <;> rfl), by repeat (first | (with_reducible first | exact HB.out | apply below_alloc | apply pw_below_drewN | apply below_drew1 | refine below_set ?_ GE217.out) | exact HB.out)⟩
      ·replace c16 := Bool.eq_false_iff.mpr c16
       subst c16
       have H1 : ((sphragisref08_RightBox.f a0_1 a0_2 a0_3 a0_4).bind fun t218 => (if a0_0 = 1 then (sphragisref11_Check.j2 kj7 (!t218) a0_0 a0_1 a0_2 a0_3 a0_4 a0_5 a0_6 a0_7 a0_8 a0_9 a0_10) else (sphragisref11_Check.j2 kj7 false a0_0 a0_1 a0_2 a0_3 a0_4 a0_5 a0_6 a0_7 a0_8 a0_9 a0_10))) = some r := by rw [if_neg (show ¬ (false = true) by decide)] at H; exact H
       clear H
       have H := H1
       clear H1
       replace H := Option.bind_eq_some_iff.mp H
       obtain ⟨t218, A170, H⟩ := H
       replace H : (if a0_0 = 1 then (sphragisref11_Check.j2 kj7 (!t218) a0_0 a0_1 a0_2 a0_3 a0_4 a0_5 a0_6 a0_7 a0_8 a0_9 a0_10) else (sphragisref11_Check.j2 kj7 false a0_0 a0_1 a0_2 a0_3 a0_4 a0_5 a0_6 a0_7 a0_8 a0_9 a0_10)) = some r := H
       have A17 := Aside0.mk A170
       clear A170
       have HC18 := Aside0.mk H
       clear H
       have hcz19_0 : wc.cell? ⟨gb217, 0, none⟩ = some (.int .i64 a0_0) := (blk_cell BK217.out 0).trans rfl
       have hcz19_1 : wc.cell? ⟨gb217, 1, none⟩ = some (.int .u32 a0_1) := (blk_cell BK217.out 1).trans rfl
       have hcz19_2 : wc.cell? ⟨gb217, 2, none⟩ = some (.int .u32 a0_2) := (blk_cell BK217.out 2).trans rfl
       have hcz19_3 : wc.cell? ⟨gb217, 3, none⟩ = some (.int .u32 a0_3) := (blk_cell BK217.out 3).trans rfl
       have hcz19_4 : wc.cell? ⟨gb217, 4, none⟩ = some (.int .u32 a0_4) := (blk_cell BK217.out 4).trans rfl
       have hcz19_5 : wc.cell? ⟨gb217, 5, none⟩ = some (.int .u32 a0_5) := (blk_cell BK217.out 5).trans rfl
       have hcz19_6 : wc.cell? ⟨gb217, 6, none⟩ = some (.int .u32 a0_6) := (blk_cell BK217.out 6).trans rfl
       have hcz19_7 : wc.cell? ⟨gb217, 7, none⟩ = some (.int .u64 a0_7) := (blk_cell BK217.out 7).trans rfl
       have hcz19_8 : wc.cell? ⟨gb217, 8, none⟩ = some (.int .i64 a0_8) := (blk_cell BK217.out 8).trans rfl
       have hcz19_9 : wc.cell? ⟨gb217, 9, none⟩ = some (.int .u64 a0_9) := (blk_cell BK217.out 9).trans rfl
       have hcz19_10 : wc.cell? ⟨gb217, 10, none⟩ = some (.bool a0_10) := (blk_cell BK217.out 10).trans rfl
       have hfz19_0 := blk_frozen BK217.out 0
       have hfz19_1 := blk_frozen BK217.out 1
       have hfz19_2 := blk_frozen BK217.out 2
       have hfz19_3 := blk_frozen BK217.out 3
       have hfz19_4 := blk_frozen BK217.out 4
       have hfz19_5 := blk_frozen BK217.out 5
       have hfz19_6 := blk_frozen BK217.out 6
       have hfz19_7 := blk_frozen BK217.out 7
       have hfz19_8 := blk_frozen BK217.out 8
       have hfz19_9 := blk_frozen BK217.out 9
       have hfz19_10 := blk_frozen BK217.out 10
       go_upto_region 6 with (first | ((with_reducible refine gate_callee (f := 27) rfl ?_); refine goesL_ (some 32) rfl rfl Tryz.func27 (by kernel_rfl) rfl #[.agg #[.int .u32 a0_1, .int .u32 a0_2, .int .u32 a0_3, .int .u32 a0_4]] rfl (by (try simp only [List.map_toArray, List.map_cons, List.map_nil]); first | done | rfl | (simp only [List.length_drop, List.length_take]; rfl)) ?_; (with_reducible refine (sphragisref08_RightBox.calls a0_1 a0_2 a0_3 a0_4 t218 _ A17.out).mono ?_); rintro e w20 ⟨rfl, hb⟩; refine ⟨_, rfl, ?_⟩; have n0_ := Aside0.mk (blk_below (g := gb217) (o := .cells #[.int .i64 a0_0, .int .u32 a0_1, .int .u32 a0_2, .int .u32 a0_3, .int .u32 a0_4, .int .u32 a0_5, .int .u32 a0_6, .int .u64 a0_7, .int .i64 a0_8, .int .u64 a0_9, .bool a0_10] 28 (0, 0)) (by (with_reducible repeat (first | refine blk_drewN ?_ _ | refine blk_drew ?_ | refine blk_alloc ?_ _)); exact BK217.out) hb); have n1_ := Aside0.mk (below_step (by repeat (first | (with_reducible first | exact HB.out | apply below_alloc | apply pw_below_drewN | apply below_drew1 | refine below_set ?_ GE217.out) | exact HB.out)) hb); clear BK217; clear HB; have BK217 := n0_; have HB := n1_; clear n0_ n1_; (try clear hb); (try clear hb2); (try clear hk); (try clear hi)))
       (try simp only [Act.put, List.setIfInBounds_toArray, List.set_cons_zero, List.set_cons_succ])
       go_cut [39] (fun v39 wc => ∃ (kq : Nat) (x39_17 : Bool), v39 = .bool x39_17 ∧ Aside0 (sphragisref11_Check.j2 kq x39_17 a0_0 a0_1 a0_2 a0_3 a0_4 a0_5 a0_6 a0_7 a0_8 a0_9 a0_10 = some r) ∧ Aside0 (kq ≤ kj7) ∧ Aside0 (wc.heap[gb217]? = some (.cells #[.int .i64 a0_0, .int .u32 a0_1, .int .u32 a0_2, .int .u32 a0_3, .int .u32 a0_4, .int .u32 a0_5, .int .u32 a0_6, .int .u64 a0_7, .int .i64 a0_8, .int .u64 a0_9, .bool a0_10] 28 (0, 0))) ∧ Aside0 (Below w.heap.size w wc))
       case first =>
        have H := HC18.out
        clear HC18
        by_cases c21 : a0_0 = 1
        ·rw [if_pos c21] at H
         have c21b0 : (a0_0 == 1) = true := beq_iff_eq.mpr c21
         have c21b1 : (a0_0 != 1) = false := bne_eq_false_iff_eq.mpr c21
         clear c21
         (first | rw [c21b0] | (simp only [i64_w, i32_w]; rw [c21b0]) | skip)
         have H' := Aside0.mk H
         clear H
         have hcz22_0 : w20.cell? ⟨gb217, 0, none⟩ = some (.int .i64 a0_0) := (blk_cell BK217.out 0).trans rfl
         have hcz22_1 : w20.cell? ⟨gb217, 1, none⟩ = some (.int .u32 a0_1) := (blk_cell BK217.out 1).trans rfl
         have hcz22_2 : w20.cell? ⟨gb217, 2, none⟩ = some (.int .u32 a0_2) := (blk_cell BK217.out 2).trans rfl
         have hcz22_3 : w20.cell? ⟨gb217, 3, none⟩ = some (.int .u32 a0_3) := (blk_cell BK217.out 3).trans rfl
         have hcz22_4 : w20.cell? ⟨gb217, 4, none⟩ = some (.int .u32 a0_4) := (blk_cell BK217.out 4).trans rfl
         have hcz22_5 : w20.cell? ⟨gb217, 5, none⟩ = some (.int .u32 a0_5) := (blk_cell BK217.out 5).trans rfl
         have hcz22_6 : w20.cell? ⟨gb217, 6, none⟩ = some (.int .u32 a0_6) := (blk_cell BK217.out 6).trans rfl
         have hcz22_7 : w20.cell? ⟨gb217, 7, none⟩ = some (.int .u64 a0_7) := (blk_cell BK217.out 7).trans rfl
         have hcz22_8 : w20.cell? ⟨gb217, 8, none⟩ = some (.int .i64 a0_8) := (blk_cell BK217.out 8).trans rfl
         have hcz22_9 : w20.cell? ⟨gb217, 9, none⟩ = some (.int .u64 a0_9) := (blk_cell BK217.out 9).trans rfl
         have hcz22_10 : w20.cell? ⟨gb217, 10, none⟩ = some (.bool a0_10) := (blk_cell BK217.out 10).trans rfl
         have hfz22_0 := blk_frozen BK217.out 0
         have hfz22_1 := blk_frozen BK217.out 1
         have hfz22_2 := blk_frozen BK217.out 2
         have hfz22_3 := blk_frozen BK217.out 3
         have hfz22_4 := blk_frozen BK217.out 4
         have hfz22_5 := blk_frozen BK217.out 5
         have hfz22_6 := blk_frozen BK217.out 6
         have hfz22_7 := blk_frozen BK217.out 7
         have hfz22_8 := blk_frozen BK217.out 8
         have hfz22_9 := blk_frozen BK217.out 9
         have hfz22_10 := blk_frozen BK217.out 10
         go_wp2
         go_meet
         case rel => exact ⟨_, (!t218), (by first | rfl | (simp; done) | (simp [*]; done)), H', ⟨by have := HJ1.out; have := HJ7.out; first | omega | exact Nat.le_refl _⟩, ⟨by (with_reducible repeat (first | refine blk_drewN ?_ _ | refine blk_drew ?_ | refine blk_alloc ?_ _)); exact BK217.out⟩, ⟨by repeat (first | (with_reducible first | exact HB.out | apply below_alloc | apply pw_below_drewN | apply below_drew1 | refine below_set ?_ GE217.out) | exact HB.out)⟩⟩
        ·rw [if_neg c21] at H
         have c21b0 : (a0_0 == 1) = false := beq_eq_false_iff_ne.mpr c21
         have c21b1 : (a0_0 != 1) = true := bne_iff_ne.mpr c21
         (first | rw [c21b0] | (simp only [i64_w, i32_w]; rw [c21b0]) | skip)
         have H' := Aside0.mk H
         clear H
         have hcz23_0 : w20.cell? ⟨gb217, 0, none⟩ = some (.int .i64 a0_0) := (blk_cell BK217.out 0).trans rfl
         have hcz23_1 : w20.cell? ⟨gb217, 1, none⟩ = some (.int .u32 a0_1) := (blk_cell BK217.out 1).trans rfl
         have hcz23_2 : w20.cell? ⟨gb217, 2, none⟩ = some (.int .u32 a0_2) := (blk_cell BK217.out 2).trans rfl
         have hcz23_3 : w20.cell? ⟨gb217, 3, none⟩ = some (.int .u32 a0_3) := (blk_cell BK217.out 3).trans rfl
         have hcz23_4 : w20.cell? ⟨gb217, 4, none⟩ = some (.int .u32 a0_4) := (blk_cell BK217.out 4).trans rfl
         have hcz23_5 : w20.cell? ⟨gb217, 5, none⟩ = some (.int .u32 a0_5) := (blk_cell BK217.out 5).trans rfl
         have hcz23_6 : w20.cell? ⟨gb217, 6, none⟩ = some (.int .u32 a0_6) := (blk_cell BK217.out 6).trans rfl
         have hcz23_7 : w20.cell? ⟨gb217, 7, none⟩ = some (.int .u64 a0_7) := (blk_cell BK217.out 7).trans rfl
         have hcz23_8 : w20.cell? ⟨gb217, 8, none⟩ = some (.int .i64 a0_8) := (blk_cell BK217.out 8).trans rfl
         have hcz23_9 : w20.cell? ⟨gb217, 9, none⟩ = some (.int .u64 a0_9) := (blk_cell BK217.out 9).trans rfl
         have hcz23_10 : w20.cell? ⟨gb217, 10, none⟩ = some (.bool a0_10) := (blk_cell BK217.out 10).trans rfl
         have hfz23_0 := blk_frozen BK217.out 0
         have hfz23_1 := blk_frozen BK217.out 1
         have hfz23_2 := blk_frozen BK217.out 2
         have hfz23_3 := blk_frozen BK217.out 3
         have hfz23_4 := blk_frozen BK217.out 4
         have hfz23_5 := blk_frozen BK217.out 5
         have hfz23_6 := blk_frozen BK217.out 6
         have hfz23_7 := blk_frozen BK217.out 7
         have hfz23_8 := blk_frozen BK217.out 8
         have hfz23_9 := blk_frozen BK217.out 9
         have hfz23_10 := blk_frozen BK217.out 10
         go_wp2
         go_meet
         case rel => exact ⟨_, (false), (by first | rfl | (simp; done) | (simp [*]; done)), H', ⟨by have := HJ1.out; have := HJ7.out; first | omega | exact Nat.le_refl _⟩, ⟨by (with_reducible repeat (first | refine blk_drewN ?_ _ | refine blk_drew ?_ | refine blk_alloc ?_ _)); exact BK217.out⟩, ⟨by repeat (first | (with_reducible first | exact HB.out | apply below_alloc | apply pw_below_drewN | apply below_drew1 | refine below_set ?_ GE217.out) | exact HB.out)⟩⟩
       case rest =>
        clear HC18
        try clear c1
        try clear c2
        try clear p2
        try clear c4
        try clear c4b0
        try clear c7
        try clear c9
        try clear c9b0
        try clear c11
        try clear c11b0
        try clear c13
        try clear c13b0
        try clear c13b1
        try clear c16
        try clear c18
        try clear c21
        try clear c21b0
        try clear c21b1
        try clear hcz10_0
        try clear hcz10_1
        try clear hcz10_10
        try clear hcz10_2
        try clear hcz10_3
        try clear hcz10_4
        try clear hcz10_5
        try clear hcz10_6
        try clear hcz10_7
        try clear hcz10_8
        try clear hcz10_9
        try clear hcz12_0
        try clear hcz12_1
        try clear hcz12_10
        try clear hcz12_2
        try clear hcz12_3
        try clear hcz12_4
        try clear hcz12_5
        try clear hcz12_6
        try clear hcz12_7
        try clear hcz12_8
        try clear hcz12_9
        try clear hcz14_0
        try clear hcz14_1
        try clear hcz14_10
        try clear hcz14_2
        try clear hcz14_3
        try clear hcz14_4
        try clear hcz14_5
        try clear hcz14_6
        try clear hcz14_7
        try clear hcz14_8
        try clear hcz14_9
        try clear hcz15_0
        try clear hcz15_1
        try clear hcz15_10
        try clear hcz15_2
        try clear hcz15_3
        try clear hcz15_4
        try clear hcz15_5
        try clear hcz15_6
        try clear hcz15_7
        try clear hcz15_8
        try clear hcz15_9
        try clear hcz19_0
        try clear hcz19_1
        try clear hcz19_10
        try clear hcz19_2
        try clear hcz19_3
        try clear hcz19_4
        try clear hcz19_5
        try clear hcz19_6
        try clear hcz19_7
        try clear hcz19_8
        try clear hcz19_9
        try clear hcz22_0
        try clear hcz22_1
        try clear hcz22_10
        try clear hcz22_2
        try clear hcz22_3
        try clear hcz22_4
        try clear hcz22_5
        try clear hcz22_6
        try clear hcz22_7
        try clear hcz22_8
        try clear hcz22_9
        try clear hcz23_0
        try clear hcz23_1
        try clear hcz23_10
        try clear hcz23_2
        try clear hcz23_3
        try clear hcz23_4
        try clear hcz23_5
        try clear hcz23_6
        try clear hcz23_7
        try clear hcz23_8
        try clear hcz23_9
        try clear hcz5_0
        try clear hcz5_1
        try clear hcz5_10
        try clear hcz5_2
        try clear hcz5_3
        try clear hcz5_4
        try clear hcz5_5
        try clear hcz5_6
        try clear hcz5_7
        try clear hcz5_8
        try clear hcz5_9
        try clear hcz6_0
        try clear hcz6_1
        try clear hcz6_10
        try clear hcz6_2
        try clear hcz6_3
        try clear hcz6_4
        try clear hcz6_5
        try clear hcz6_6
        try clear hcz6_7
        try clear hcz6_8
        try clear hcz6_9
        try clear hfz10_0
        try clear hfz10_1
        try clear hfz10_10
        try clear hfz10_2
        try clear hfz10_3
        try clear hfz10_4
        try clear hfz10_5
        try clear hfz10_6
        try clear hfz10_7
        try clear hfz10_8
        try clear hfz10_9
        try clear hfz12_0
        try clear hfz12_1
        try clear hfz12_10
        try clear hfz12_2
        try clear hfz12_3
        try clear hfz12_4
        try clear hfz12_5
        try clear hfz12_6
        try clear hfz12_7
        try clear hfz12_8
        try clear hfz12_9
        try clear hfz14_0
        try clear hfz14_1
        try clear hfz14_10
        try clear hfz14_2
        try clear hfz14_3
        try clear hfz14_4
        try clear hfz14_5
        try clear hfz14_6
        try clear hfz14_7
        try clear hfz14_8
        try clear hfz14_9
        try clear hfz15_0
        try clear hfz15_1
        try clear hfz15_10
        try clear hfz15_2
        try clear hfz15_3
        try clear hfz15_4
        try clear hfz15_5
        try clear hfz15_6
        try clear hfz15_7
        try clear hfz15_8
        try clear hfz15_9
        try clear hfz19_0
        try clear hfz19_1
        try clear hfz19_10
        try clear hfz19_2
        try clear hfz19_3
        try clear hfz19_4
        try clear hfz19_5
        try clear hfz19_6
        try clear hfz19_7
        try clear hfz19_8
        try clear hfz19_9
        try clear hfz22_0
        try clear hfz22_1
        try clear hfz22_10
        try clear hfz22_2
        try clear hfz22_3
        try clear hfz22_4
        try clear hfz22_5
        try clear hfz22_6
        try clear hfz22_7
        try clear hfz22_8
        try clear hfz22_9
        try clear hfz23_0
        try clear hfz23_1
        try clear hfz23_10
        try clear hfz23_2
        try clear hfz23_3
        try clear hfz23_4
        try clear hfz23_5
        try clear hfz23_6
        try clear hfz23_7
        try clear hfz23_8
        try clear hfz23_9
        try clear hfz5_0
        try clear hfz5_1
        try clear hfz5_10
        try clear hfz5_2
        try clear hfz5_3
        try clear hfz5_4
        try clear hfz5_5
        try clear hfz5_6
        try clear hfz5_7
        try clear hfz5_8
        try clear hfz5_9
        try clear hfz6_0
        try clear hfz6_1
        try clear hfz6_10
        try clear hfz6_2
        try clear hfz6_3
        try clear hfz6_4
        try clear hfz6_5
        try clear hfz6_6
        try clear hfz6_7
        try clear hfz6_8
        try clear hfz6_9
        try clear p2
        obtain ⟨kq, x39_17, rfl, HA, HJ17, BK217, HB⟩ := hcut
        cases kq with
        | zero => exact absurd HA.out (by simp [sphragisref11_Check.j2])
        | succ kj17 =>
         have H := HA.out
         clear HA
         simp only [sphragisref11_Check.j2] at H
         by_cases c24 : x39_17 = true
         ·subst c24
          have H1 : (some 81) = some r := by rw [if_pos rfl] at H; exact H
          clear H
          have H := H1
          clear H1
          obtain rfl := Option.some.inj H
          go_wp2
          go_ret
          exact ⟨by first | rfl | (simp [errW_none, errW_some] <;> rfl) | (simp [*, errW_none, errW_some] <;> rfl), by repeat (first | (with_reducible first | exact HB.out | apply below_alloc | apply pw_below_drewN | apply below_drew1 | refine below_set ?_ GE217.out) | exact HB.out)⟩
         ·replace c24 := Bool.eq_false_iff.mpr c24
          subst c24
          have H1 : (if a0_0 = 2 then (if a0_5 ≥ 2147483648 then (some 2) else (if a0_6 ≥ 2147483648 then (some 2) else (some 0))) else (if a0_0 = 3 then (if a0_5 ≥ 2147483648 then (some 2) else (if a0_6 ≥ 2147483648 then (some 2) else (some 0))) else (some 0))) = some r := by rw [if_neg (show ¬ (false = true) by decide)] at H; exact H
          clear H
          have H := H1
          clear H1
          by_cases c25 : a0_0 = 2
          ·rw [if_pos c25] at H
           have c25b0 : (a0_0 == 2) = true := beq_iff_eq.mpr c25
           have c25b1 : (a0_0 != 2) = false := bne_eq_false_iff_eq.mpr c25
           clear c25
           by_cases c26 : a0_5 ≥ 2147483648
           ·rw [if_pos c26] at H
            have c26b0 : decide (2147483648 ≤ a0_5) = true := decide_eq_true c26
            clear c26
            obtain rfl := Option.some.inj H
            have hcz27_0 : wc.cell? ⟨gb217, 0, none⟩ = some (.int .i64 a0_0) := (blk_cell BK217.out 0).trans rfl
            have hcz27_1 : wc.cell? ⟨gb217, 1, none⟩ = some (.int .u32 a0_1) := (blk_cell BK217.out 1).trans rfl
            have hcz27_2 : wc.cell? ⟨gb217, 2, none⟩ = some (.int .u32 a0_2) := (blk_cell BK217.out 2).trans rfl
            have hcz27_3 : wc.cell? ⟨gb217, 3, none⟩ = some (.int .u32 a0_3) := (blk_cell BK217.out 3).trans rfl
            have hcz27_4 : wc.cell? ⟨gb217, 4, none⟩ = some (.int .u32 a0_4) := (blk_cell BK217.out 4).trans rfl
            have hcz27_5 : wc.cell? ⟨gb217, 5, none⟩ = some (.int .u32 a0_5) := (blk_cell BK217.out 5).trans rfl
            have hcz27_6 : wc.cell? ⟨gb217, 6, none⟩ = some (.int .u32 a0_6) := (blk_cell BK217.out 6).trans rfl
            have hcz27_7 : wc.cell? ⟨gb217, 7, none⟩ = some (.int .u64 a0_7) := (blk_cell BK217.out 7).trans rfl
            have hcz27_8 : wc.cell? ⟨gb217, 8, none⟩ = some (.int .i64 a0_8) := (blk_cell BK217.out 8).trans rfl
            have hcz27_9 : wc.cell? ⟨gb217, 9, none⟩ = some (.int .u64 a0_9) := (blk_cell BK217.out 9).trans rfl
            have hcz27_10 : wc.cell? ⟨gb217, 10, none⟩ = some (.bool a0_10) := (blk_cell BK217.out 10).trans rfl
            have hfz27_0 := blk_frozen BK217.out 0
            have hfz27_1 := blk_frozen BK217.out 1
            have hfz27_2 := blk_frozen BK217.out 2
            have hfz27_3 := blk_frozen BK217.out 3
            have hfz27_4 := blk_frozen BK217.out 4
            have hfz27_5 := blk_frozen BK217.out 5
            have hfz27_6 := blk_frozen BK217.out 6
            have hfz27_7 := blk_frozen BK217.out 7
            have hfz27_8 := blk_frozen BK217.out 8
            have hfz27_9 := blk_frozen BK217.out 9
            have hfz27_10 := blk_frozen BK217.out 10
            go_wp2
            go_ret
            exact ⟨by first | rfl | (simp [errW_none, errW_some] <;> rfl) | (simp [*, errW_none, errW_some] <;> rfl), by repeat (first | (with_reducible first | exact HB.out | apply below_alloc | apply pw_below_drewN | apply below_drew1 | refine below_set ?_ GE217.out) | exact HB.out)⟩
           ·rw [if_neg c26] at H
            have c26b0 : decide (2147483648 ≤ a0_5) = false := decide_eq_false c26
            clear c26
            by_cases c28 : a0_6 ≥ 2147483648
            ·rw [if_pos c28] at H
             have c28b0 : decide (2147483648 ≤ a0_6) = true := decide_eq_true c28
             clear c28
             obtain rfl := Option.some.inj H
             have hcz29_0 : wc.cell? ⟨gb217, 0, none⟩ = some (.int .i64 a0_0) := (blk_cell BK217.out 0).trans rfl
             have hcz29_1 : wc.cell? ⟨gb217, 1, none⟩ = some (.int .u32 a0_1) := (blk_cell BK217.out 1).trans rfl
             have hcz29_2 : wc.cell? ⟨gb217, 2, none⟩ = some (.int .u32 a0_2) := (blk_cell BK217.out 2).trans rfl
             have hcz29_3 : wc.cell? ⟨gb217, 3, none⟩ = some (.int .u32 a0_3) := (blk_cell BK217.out 3).trans rfl
             have hcz29_4 : wc.cell? ⟨gb217, 4, none⟩ = some (.int .u32 a0_4) := (blk_cell BK217.out 4).trans rfl
             have hcz29_5 : wc.cell? ⟨gb217, 5, none⟩ = some (.int .u32 a0_5) := (blk_cell BK217.out 5).trans rfl
             have hcz29_6 : wc.cell? ⟨gb217, 6, none⟩ = some (.int .u32 a0_6) := (blk_cell BK217.out 6).trans rfl
             have hcz29_7 : wc.cell? ⟨gb217, 7, none⟩ = some (.int .u64 a0_7) := (blk_cell BK217.out 7).trans rfl
             have hcz29_8 : wc.cell? ⟨gb217, 8, none⟩ = some (.int .i64 a0_8) := (blk_cell BK217.out 8).trans rfl
             have hcz29_9 : wc.cell? ⟨gb217, 9, none⟩ = some (.int .u64 a0_9) := (blk_cell BK217.out 9).trans rfl
             have hcz29_10 : wc.cell? ⟨gb217, 10, none⟩ = some (.bool a0_10) := (blk_cell BK217.out 10).trans rfl
             have hfz29_0 := blk_frozen BK217.out 0
             have hfz29_1 := blk_frozen BK217.out 1
             have hfz29_2 := blk_frozen BK217.out 2
             have hfz29_3 := blk_frozen BK217.out 3
             have hfz29_4 := blk_frozen BK217.out 4
             have hfz29_5 := blk_frozen BK217.out 5
             have hfz29_6 := blk_frozen BK217.out 6
             have hfz29_7 := blk_frozen BK217.out 7
             have hfz29_8 := blk_frozen BK217.out 8
             have hfz29_9 := blk_frozen BK217.out 9
             have hfz29_10 := blk_frozen BK217.out 10
             go_wp2
             go_ret
             exact ⟨by first | rfl | (simp [errW_none, errW_some] <;> rfl) | (simp [*, errW_none, errW_some] <;> rfl), by repeat (first | (with_reducible first | exact HB.out | apply below_alloc | apply pw_below_drewN | apply below_drew1 | refine below_set ?_ GE217.out) | exact HB.out)⟩
            ·rw [if_neg c28] at H
             have c28b0 : decide (2147483648 ≤ a0_6) = false := decide_eq_false c28
             clear c28
             obtain rfl := Option.some.inj H
             have hcz30_0 : wc.cell? ⟨gb217, 0, none⟩ = some (.int .i64 a0_0) := (blk_cell BK217.out 0).trans rfl
             have hcz30_1 : wc.cell? ⟨gb217, 1, none⟩ = some (.int .u32 a0_1) := (blk_cell BK217.out 1).trans rfl
             have hcz30_2 : wc.cell? ⟨gb217, 2, none⟩ = some (.int .u32 a0_2) := (blk_cell BK217.out 2).trans rfl
             have hcz30_3 : wc.cell? ⟨gb217, 3, none⟩ = some (.int .u32 a0_3) := (blk_cell BK217.out 3).trans rfl
             have hcz30_4 : wc.cell? ⟨gb217, 4, none⟩ = some (.int .u32 a0_4) := (blk_cell BK217.out 4).trans rfl
             have hcz30_5 : wc.cell? ⟨gb217, 5, none⟩ = some (.int .u32 a0_5) := (blk_cell BK217.out 5).trans rfl
             have hcz30_6 : wc.cell? ⟨gb217, 6, none⟩ = some (.int .u32 a0_6) := (blk_cell BK217.out 6).trans rfl
             have hcz30_7 : wc.cell? ⟨gb217, 7, none⟩ = some (.int .u64 a0_7) := (blk_cell BK217.out 7).trans rfl
             have hcz30_8 : wc.cell? ⟨gb217, 8, none⟩ = some (.int .i64 a0_8) := (blk_cell BK217.out 8).trans rfl
             have hcz30_9 : wc.cell? ⟨gb217, 9, none⟩ = some (.int .u64 a0_9) := (blk_cell BK217.out 9).trans rfl
             have hcz30_10 : wc.cell? ⟨gb217, 10, none⟩ = some (.bool a0_10) := (blk_cell BK217.out 10).trans rfl
             have hfz30_0 := blk_frozen BK217.out 0
             have hfz30_1 := blk_frozen BK217.out 1
             have hfz30_2 := blk_frozen BK217.out 2
             have hfz30_3 := blk_frozen BK217.out 3
             have hfz30_4 := blk_frozen BK217.out 4
             have hfz30_5 := blk_frozen BK217.out 5
             have hfz30_6 := blk_frozen BK217.out 6
             have hfz30_7 := blk_frozen BK217.out 7
             have hfz30_8 := blk_frozen BK217.out 8
             have hfz30_9 := blk_frozen BK217.out 9
             have hfz30_10 := blk_frozen BK217.out 10
             go_wp2
             go_ret
             exact ⟨by first | rfl | (simp [errW_none, errW_some] <;> rfl) | (simp [*, errW_none, errW_some] <;> rfl), by repeat (first | (with_reducible first | exact HB.out | apply below_alloc | apply pw_below_drewN | apply below_drew1 | refine below_set ?_ GE217.out) | exact HB.out)⟩
          ·rw [if_neg c25] at H
           have c25b0 : (a0_0 == 2) = false := beq_eq_false_iff_ne.mpr c25
           have c25b1 : (a0_0 != 2) = true := bne_iff_ne.mpr c25
           by_cases c31 : a0_0 = 3
           ·rw [if_pos c31] at H
            have c31b0 : (a0_0 == 3) = true := beq_iff_eq.mpr c31
            have c31b1 : (a0_0 != 3) = false := bne_eq_false_iff_eq.mpr c31
            clear c31
            by_cases c32 : a0_5 ≥ 2147483648
            ·rw [if_pos c32] at H
             have c32b0 : decide (2147483648 ≤ a0_5) = true := decide_eq_true c32
             clear c32
             obtain rfl := Option.some.inj H
             have hcz33_0 : wc.cell? ⟨gb217, 0, none⟩ = some (.int .i64 a0_0) := (blk_cell BK217.out 0).trans rfl
             have hcz33_1 : wc.cell? ⟨gb217, 1, none⟩ = some (.int .u32 a0_1) := (blk_cell BK217.out 1).trans rfl
             have hcz33_2 : wc.cell? ⟨gb217, 2, none⟩ = some (.int .u32 a0_2) := (blk_cell BK217.out 2).trans rfl
             have hcz33_3 : wc.cell? ⟨gb217, 3, none⟩ = some (.int .u32 a0_3) := (blk_cell BK217.out 3).trans rfl
             have hcz33_4 : wc.cell? ⟨gb217, 4, none⟩ = some (.int .u32 a0_4) := (blk_cell BK217.out 4).trans rfl
             have hcz33_5 : wc.cell? ⟨gb217, 5, none⟩ = some (.int .u32 a0_5) := (blk_cell BK217.out 5).trans rfl
             have hcz33_6 : wc.cell? ⟨gb217, 6, none⟩ = some (.int .u32 a0_6) := (blk_cell BK217.out 6).trans rfl
             have hcz33_7 : wc.cell? ⟨gb217, 7, none⟩ = some (.int .u64 a0_7) := (blk_cell BK217.out 7).trans rfl
             have hcz33_8 : wc.cell? ⟨gb217, 8, none⟩ = some (.int .i64 a0_8) := (blk_cell BK217.out 8).trans rfl
             have hcz33_9 : wc.cell? ⟨gb217, 9, none⟩ = some (.int .u64 a0_9) := (blk_cell BK217.out 9).trans rfl
             have hcz33_10 : wc.cell? ⟨gb217, 10, none⟩ = some (.bool a0_10) := (blk_cell BK217.out 10).trans rfl
             have hfz33_0 := blk_frozen BK217.out 0
             have hfz33_1 := blk_frozen BK217.out 1
             have hfz33_2 := blk_frozen BK217.out 2
             have hfz33_3 := blk_frozen BK217.out 3
             have hfz33_4 := blk_frozen BK217.out 4
             have hfz33_5 := blk_frozen BK217.out 5
             have hfz33_6 := blk_frozen BK217.out 6
             have hfz33_7 := blk_frozen BK217.out 7
             have hfz33_8 := blk_frozen BK217.out 8
             have hfz33_9 := blk_frozen BK217.out 9
             have hfz33_10 := blk_frozen BK217.out 10
             go_wp2
             go_ret
             exact ⟨by first | rfl | (simp [errW_none, errW_some] <;> rfl) | (simp [*, errW_none, errW_some] <;> rfl), by repeat (first | (with_reducible first | exact HB.out | apply below_alloc | apply pw_below_drewN | apply below_drew1 | refine below_set ?_ GE217.out) | exact HB.out)⟩
            ·rw [if_neg c32] at H
             have c32b0 : decide (2147483648 ≤ a0_5) = false := decide_eq_false c32
             clear c32
             by_cases c34 : a0_6 ≥ 2147483648
             ·rw [if_pos c34] at H
              have c34b0 : decide (2147483648 ≤ a0_6) = true := decide_eq_true c34
              clear c34
              obtain rfl := Option.some.inj H
              have hcz35_0 : wc.cell? ⟨gb217, 0, none⟩ = some (.int .i64 a0_0) := (blk_cell BK217.out 0).trans rfl
              have hcz35_1 : wc.cell? ⟨gb217, 1, none⟩ = some (.int .u32 a0_1) := (blk_cell BK217.out 1).trans rfl
              have hcz35_2 : wc.cell? ⟨gb217, 2, none⟩ = some (.int .u32 a0_2) := (blk_cell BK217.out 2).trans rfl
              have hcz35_3 : wc.cell? ⟨gb217, 3, none⟩ = some (.int .u32 a0_3) := (blk_cell BK217.out 3).trans rfl
              have hcz35_4 : wc.cell? ⟨gb217, 4, none⟩ = some (.int .u32 a0_4) := (blk_cell BK217.out 4).trans rfl
              have hcz35_5 : wc.cell? ⟨gb217, 5, none⟩ = some (.int .u32 a0_5) := (blk_cell BK217.out 5).trans rfl
              have hcz35_6 : wc.cell? ⟨gb217, 6, none⟩ = some (.int .u32 a0_6) := (blk_cell BK217.out 6).trans rfl
              have hcz35_7 : wc.cell? ⟨gb217, 7, none⟩ = some (.int .u64 a0_7) := (blk_cell BK217.out 7).trans rfl
              have hcz35_8 : wc.cell? ⟨gb217, 8, none⟩ = some (.int .i64 a0_8) := (blk_cell BK217.out 8).trans rfl
              have hcz35_9 : wc.cell? ⟨gb217, 9, none⟩ = some (.int .u64 a0_9) := (blk_cell BK217.out 9).trans rfl
              have hcz35_10 : wc.cell? ⟨gb217, 10, none⟩ = some (.bool a0_10) := (blk_cell BK217.out 10).trans rfl
              have hfz35_0 := blk_frozen BK217.out 0
              have hfz35_1 := blk_frozen BK217.out 1
              have hfz35_2 := blk_frozen BK217.out 2
              have hfz35_3 := blk_frozen BK217.out 3
              have hfz35_4 := blk_frozen BK217.out 4
              have hfz35_5 := blk_frozen BK217.out 5
              have hfz35_6 := blk_frozen BK217.out 6
              have hfz35_7 := blk_frozen BK217.out 7
              have hfz35_8 := blk_frozen BK217.out 8
              have hfz35_9 := blk_frozen BK217.out 9
              have hfz35_10 := blk_frozen BK217.out 10
              go_wp2
              go_ret
              exact ⟨by first | rfl | (simp [errW_none, errW_some] <;> rfl) | (simp [*, errW_none, errW_some] <;> rfl), by repeat (first | (with_reducible first | exact HB.out | apply below_alloc | apply pw_below_drewN | apply below_drew1 | refine below_set ?_ GE217.out) | exact HB.out)⟩
             ·rw [if_neg c34] at H
              have c34b0 : decide (2147483648 ≤ a0_6) = false := decide_eq_false c34
              clear c34
              obtain rfl := Option.some.inj H
              have hcz36_0 : wc.cell? ⟨gb217, 0, none⟩ = some (.int .i64 a0_0) := (blk_cell BK217.out 0).trans rfl
              have hcz36_1 : wc.cell? ⟨gb217, 1, none⟩ = some (.int .u32 a0_1) := (blk_cell BK217.out 1).trans rfl
              have hcz36_2 : wc.cell? ⟨gb217, 2, none⟩ = some (.int .u32 a0_2) := (blk_cell BK217.out 2).trans rfl
              have hcz36_3 : wc.cell? ⟨gb217, 3, none⟩ = some (.int .u32 a0_3) := (blk_cell BK217.out 3).trans rfl
              have hcz36_4 : wc.cell? ⟨gb217, 4, none⟩ = some (.int .u32 a0_4) := (blk_cell BK217.out 4).trans rfl
              have hcz36_5 : wc.cell? ⟨gb217, 5, none⟩ = some (.int .u32 a0_5) := (blk_cell BK217.out 5).trans rfl
              have hcz36_6 : wc.cell? ⟨gb217, 6, none⟩ = some (.int .u32 a0_6) := (blk_cell BK217.out 6).trans rfl
              have hcz36_7 : wc.cell? ⟨gb217, 7, none⟩ = some (.int .u64 a0_7) := (blk_cell BK217.out 7).trans rfl
              have hcz36_8 : wc.cell? ⟨gb217, 8, none⟩ = some (.int .i64 a0_8) := (blk_cell BK217.out 8).trans rfl
              have hcz36_9 : wc.cell? ⟨gb217, 9, none⟩ = some (.int .u64 a0_9) := (blk_cell BK217.out 9).trans rfl
              have hcz36_10 : wc.cell? ⟨gb217, 10, none⟩ = some (.bool a0_10) := (blk_cell BK217.out 10).trans rfl
              have hfz36_0 := blk_frozen BK217.out 0
              have hfz36_1 := blk_frozen BK217.out 1
              have hfz36_2 := blk_frozen BK217.out 2
              have hfz36_3 := blk_frozen BK217.out 3
              have hfz36_4 := blk_frozen BK217.out 4
              have hfz36_5 := blk_frozen BK217.out 5
              have hfz36_6 := blk_frozen BK217.out 6
              have hfz36_7 := blk_frozen BK217.out 7
              have hfz36_8 := blk_frozen BK217.out 8
              have hfz36_9 := blk_frozen BK217.out 9
              have hfz36_10 := blk_frozen BK217.out 10
              go_wp2
              go_ret
              exact ⟨by first | rfl | (simp [errW_none, errW_some] <;> rfl) | (simp [*, errW_none, errW_some] <;> rfl), by repeat (first | (with_reducible first | exact HB.out | apply below_alloc | apply pw_below_drewN | apply below_drew1 | refine below_set ?_ GE217.out) | exact HB.out)⟩
           ·rw [if_neg c31] at H
            have c31b0 : (a0_0 == 3) = false := beq_eq_false_iff_ne.mpr c31
            have c31b1 : (a0_0 != 3) = true := bne_iff_ne.mpr c31
            obtain rfl := Option.some.inj H
            have hcz37_0 : wc.cell? ⟨gb217, 0, none⟩ = some (.int .i64 a0_0) := (blk_cell BK217.out 0).trans rfl
            have hcz37_1 : wc.cell? ⟨gb217, 1, none⟩ = some (.int .u32 a0_1) := (blk_cell BK217.out 1).trans rfl
            have hcz37_2 : wc.cell? ⟨gb217, 2, none⟩ = some (.int .u32 a0_2) := (blk_cell BK217.out 2).trans rfl
            have hcz37_3 : wc.cell? ⟨gb217, 3, none⟩ = some (.int .u32 a0_3) := (blk_cell BK217.out 3).trans rfl
            have hcz37_4 : wc.cell? ⟨gb217, 4, none⟩ = some (.int .u32 a0_4) := (blk_cell BK217.out 4).trans rfl
            have hcz37_5 : wc.cell? ⟨gb217, 5, none⟩ = some (.int .u32 a0_5) := (blk_cell BK217.out 5).trans rfl
            have hcz37_6 : wc.cell? ⟨gb217, 6, none⟩ = some (.int .u32 a0_6) := (blk_cell BK217.out 6).trans rfl
            have hcz37_7 : wc.cell? ⟨gb217, 7, none⟩ = some (.int .u64 a0_7) := (blk_cell BK217.out 7).trans rfl
            have hcz37_8 : wc.cell? ⟨gb217, 8, none⟩ = some (.int .i64 a0_8) := (blk_cell BK217.out 8).trans rfl
            have hcz37_9 : wc.cell? ⟨gb217, 9, none⟩ = some (.int .u64 a0_9) := (blk_cell BK217.out 9).trans rfl
            have hcz37_10 : wc.cell? ⟨gb217, 10, none⟩ = some (.bool a0_10) := (blk_cell BK217.out 10).trans rfl
            have hfz37_0 := blk_frozen BK217.out 0
            have hfz37_1 := blk_frozen BK217.out 1
            have hfz37_2 := blk_frozen BK217.out 2
            have hfz37_3 := blk_frozen BK217.out 3
            have hfz37_4 := blk_frozen BK217.out 4
            have hfz37_5 := blk_frozen BK217.out 5
            have hfz37_6 := blk_frozen BK217.out 6
            have hfz37_7 := blk_frozen BK217.out 7
            have hfz37_8 := blk_frozen BK217.out 8
            have hfz37_9 := blk_frozen BK217.out 9
            have hfz37_10 := blk_frozen BK217.out 10
            go_wp2
            go_ret
            exact ⟨by first | rfl | (simp [errW_none, errW_some] <;> rfl) | (simp [*, errW_none, errW_some] <;> rfl), by repeat (first | (with_reducible first | exact HB.out | apply below_alloc | apply pw_below_drewN | apply below_drew1 | refine below_set ?_ GE217.out) | exact HB.out)⟩
end Go.Proofs.YtoimgijhekahhaaGreat.P

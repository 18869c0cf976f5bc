-- Laid by a program of this session: the walk of functions of the translation, for this claim.
import Derived.Test.YtojmfbdioaocpaaPx0
import Derived.Test.YtojmfbdioaocpaaPx9
import Derived.Test.YtojmfbdioaocpaaPx10
namespace Go.Proofs.Ytojmfbdioaocpaa.P
open Go.RowKit Go.Proofs.YtojmfbdioaocpaaOwn Go.Proofs.YtojmfbdioaocpaaW.PrintWords Go.Proofs.YtojmfbdioaocpaaW.PrintLast Go.Proofs.YtojmfbdioaocpaaW.PrintMore
attribute [local go_sem] max2_int min2_int max_two min_two max_three min_three max_four min_four   -- for this text's walks alone
set_option linter.unusedVariables false
set_option linter.unusedSimpArgs false

/-! ### sphragisref09_tree: function 34 -/
mutual
def sphragisref09_tree.j0 : Nat → List (S26) → Bool → Int → Int → Int → Option (Int × Int × Int × (List (S26)) × (List (S33)))
  | 0, _, _, _, _, _ => none
  | k + 1, x0, x25, x207000, x207001, x207002 => if x25 = true then (if 0 ≤ (x0.length : Int) then (if ((x0.length : Int) : Int).toNat ≤ 8796093022208 then ((some (([] : List (S26)) : List (S26))).bind fun y207 => (if y207.length + x0.length < 4398046511104 then (some (x207000, x207001, x207002, (y207 ++ x0), ([] : List (S33)))) else (none))) else (none)) else (none)) else (sphragisref09_tree.l0 k x0 0 x207000 x207001 x207002 ([] : List (S33)))
def sphragisref09_tree.l0 : Nat → List (S26) → Int → Int → Int → Int → List (S33) → Option (Int × Int × Int × (List (S26)) × (List (S33)))
  | 0, _, _, _, _, _, _ => none
  | k + 1, x0, x4, x207000, x207001, x207002, x207004 => if x4 < 4 then ((sphragisref08_Quarter.f k x207000 x207001 x207002 x4).bind fun bt213 => (sphragisref09_tree.l1 k x0 x4 ([] : List (S26)) 0 x207000 x207001 x207002 x207004 bt213.1 bt213.2.1 bt213.2.2.1)) else (some (x207000, x207001, x207002, ([] : List (S26)), x207004))
def sphragisref09_tree.l1 : Nat → List (S26) → Int → List (S26) → Int → Int → Int → Int → List (S33) → Int → Int → Int → Option (Int × Int × Int × (List (S26)) × (List (S33)))
  | 0, _, _, _, _, _, _, _, _, _, _, _ => none
  | k + 1, x0, x4, x7, x8, x207000, x207001, x207002, x207004, x218000, x218001, x218002 => if x8 < (x0.length : Int) then (if 0 ≤ x8 then ((sphragisref08_Has.f k x218000 x218001 x218002 ((rd_T26 x0 x8).f1) ((rd_T26 x0 x8).f2)).bind fun t220 => (if t220 = true then (if x7.length < 4398046511104 then (sphragisref09_tree.l1 k x0 x4 (x7 ++ [(⟨(rd_T26 x0 x8).f0, (rd_T26 x0 x8).f1, (rd_T26 x0 x8).f2, (rd_T26 x0 x8).f3⟩ : S26)]) (wrap64 (x8 + 1)) x207000 x207001 x207002 x207004 x218000 x218001 x218002) else (none)) else (sphragisref09_tree.l1 k x0 x4 x7 (wrap64 (x8 + 1)) x207000 x207001 x207002 x207004 x218000 x218001 x218002))) else (none)) else (if (x7.length : Int) > 0 then ((sphragisref09_tree.f k x7).bind fun bt225 => (if x207004.length < 2199023255552 then (sphragisref09_tree.l0 k x0 (wrap64 (x4 + 1)) x207000 x207001 x207002 (x207004 ++ [(⟨(⟨bt225.1, bt225.2.1, bt225.2.2.1⟩ : S30), bt225.2.2.2.1, bt225.2.2.2.2⟩ : S33)])) else (none))) else (sphragisref09_tree.l0 k x0 (wrap64 (x4 + 1)) x207000 x207001 x207002 x207004))
def sphragisref09_tree.f : Nat → List (S26) → Option (Int × Int × Int × (List (S26)) × (List (S33)))
  | 0, _ => none
  | k + 1, l0 => if (l0.length : Int) = 0 then (some (0, 0, 0, ([] : List (S26)), ([] : List (S33)))) else ((sphragisref09_around.f k l0).bind fun bt203 => (if (l0.length : Int) ≤ 4 then (sphragisref09_tree.j0 k l0 true bt203.1 bt203.2.1 bt203.2.2) else (sphragisref09_tree.j0 k l0 (bt203.2.2 == 0) bt203.1 bt203.2.1 bt203.2.2)))
end
theorem sphragisref09_tree.mono_l : ∀ k, (∀ y0, LeO (sphragisref09_tree.f k y0) (sphragisref09_tree.f (k + 1) y0)) ∧ (∀ y0 y1 y2 y3 y4, LeO (sphragisref09_tree.j0 k y0 y1 y2 y3 y4) (sphragisref09_tree.j0 (k + 1) y0 y1 y2 y3 y4)) ∧ (∀ y0 y1 y2 y3 y4 y5, LeO (sphragisref09_tree.l0 k y0 y1 y2 y3 y4 y5) (sphragisref09_tree.l0 (k + 1) y0 y1 y2 y3 y4 y5)) ∧ (∀ y0 y1 y2 y3 y4 y5 y6 y7 y8 y9 y10, LeO (sphragisref09_tree.l1 k y0 y1 y2 y3 y4 y5 y6 y7 y8 y9 y10) (sphragisref09_tree.l1 (k + 1) y0 y1 y2 y3 y4 y5 y6 y7 y8 y9 y10))
  | 0 => ⟨fun _ r h => by simp [sphragisref09_tree.f] at h, fun _ _ _ _ _ r h => by simp [sphragisref09_tree.j0] at h, fun _ _ _ _ _ _ r h => by simp [sphragisref09_tree.l0] at h, fun _ _ _ _ _ _ _ _ _ _ _ r h => by simp [sphragisref09_tree.l1] at h⟩
  | k + 1 => by
    obtain ⟨ih0, ih1, ih2, ih3⟩ := sphragisref09_tree.mono_l k
    refine ⟨?_, ?_, ?_, ?_⟩
    · intro y0
      unfold sphragisref09_tree.f
      repeat' first
      | (with_reducible exact ih0 _)
      | (with_reducible exact ih1 _ _ _ _ _)
      | (with_reducible exact ih2 _ _ _ _ _ _)
      | (with_reducible exact ih3 _ _ _ _ _ _ _ _ _ _ _)
      | (with_reducible exact sphragisref08_Has.mono _ _ _ _ _ _)
      | (with_reducible exact sphragisref08_Quarter.mono _ _ _ _ _)
      | (with_reducible exact sphragisref09_around.mono _ _)
      | (with_reducible exact LeO.refl _)
      | (with_reducible exact LeO.none _)
      | (with_reducible refine LeO.ite ?_ ?_)
      | (with_reducible refine LeO.bind ?_ (fun _ => ?_))
      | exact ih0 _
      | exact ih1 _ _ _ _ _
      | exact ih2 _ _ _ _ _ _
      | exact ih3 _ _ _ _ _ _ _ _ _ _ _
      | exact sphragisref08_Has.mono _ _ _ _ _ _
      | exact sphragisref08_Quarter.mono _ _ _ _ _
      | exact sphragisref09_around.mono _ _
      | exact LeO.none _
      | refine LeO.ite ?_ ?_
      | refine LeO.bind ?_ (fun _ => ?_)
    · intro y0 y1 y2 y3 y4
      unfold sphragisref09_tree.j0
      repeat' first
      | (with_reducible exact ih0 _)
      | (with_reducible exact ih1 _ _ _ _ _)
      | (with_reducible exact ih2 _ _ _ _ _ _)
      | (with_reducible exact ih3 _ _ _ _ _ _ _ _ _ _ _)
      | (with_reducible exact sphragisref08_Has.mono _ _ _ _ _ _)
      | (with_reducible exact sphragisref08_Quarter.mono _ _ _ _ _)
      | (with_reducible exact sphragisref09_around.mono _ _)
      | (with_reducible exact LeO.refl _)
      | (with_reducible exact LeO.none _)
      | (with_reducible refine LeO.ite ?_ ?_)
      | (with_reducible refine LeO.bind ?_ (fun _ => ?_))
      | exact ih0 _
      | exact ih1 _ _ _ _ _
      | exact ih2 _ _ _ _ _ _
      | exact ih3 _ _ _ _ _ _ _ _ _ _ _
      | exact sphragisref08_Has.mono _ _ _ _ _ _
      | exact sphragisref08_Quarter.mono _ _ _ _ _
      | exact sphragisref09_around.mono _ _
      | exact LeO.none _
      | refine LeO.ite ?_ ?_
      | refine LeO.bind ?_ (fun _ => ?_)
    · intro y0 y1 y2 y3 y4 y5
      unfold sphragisref09_tree.l0
      repeat' first
      | (with_reducible exact ih0 _)
      | (with_reducible exact ih1 _ _ _ _ _)
      | (with_reducible exact ih2 _ _ _ _ _ _)
      | (with_reducible exact ih3 _ _ _ _ _ _ _ _ _ _ _)
      | (with_reducible exact sphragisref08_Has.mono _ _ _ _ _ _)
      | (with_reducible exact sphragisref08_Quarter.mono _ _ _ _ _)
      | (with_reducible exact sphragisref09_around.mono _ _)
      | (with_reducible exact LeO.refl _)
      | (with_reducible exact LeO.none _)
      | (with_reducible refine LeO.ite ?_ ?_)
      | (with_reducible refine LeO.bind ?_ (fun _ => ?_))
      | exact ih0 _
      | exact ih1 _ _ _ _ _
      | exact ih2 _ _ _ _ _ _
      | exact ih3 _ _ _ _ _ _ _ _ _ _ _
      | exact sphragisref08_Has.mono _ _ _ _ _ _
      | exact sphragisref08_Quarter.mono _ _ _ _ _
      | exact sphragisref09_around.mono _ _
      | exact LeO.none _
      | refine LeO.ite ?_ ?_
      | refine LeO.bind ?_ (fun _ => ?_)
    · intro y0 y1 y2 y3 y4 y5 y6 y7 y8 y9 y10
      unfold sphragisref09_tree.l1
      repeat' first
      | (with_reducible exact ih0 _)
      | (with_reducible exact ih1 _ _ _ _ _)
      | (with_reducible exact ih2 _ _ _ _ _ _)
      | (with_reducible exact ih3 _ _ _ _ _ _ _ _ _ _ _)
      | (with_reducible exact sphragisref08_Has.mono _ _ _ _ _ _)
      | (with_reducible exact sphragisref08_Quarter.mono _ _ _ _ _)
      | (with_reducible exact sphragisref09_around.mono _ _)
      | (with_reducible exact LeO.refl _)
      | (with_reducible exact LeO.none _)
      | (with_reducible refine LeO.ite ?_ ?_)
      | (with_reducible refine LeO.bind ?_ (fun _ => ?_))
      | exact ih0 _
      | exact ih1 _ _ _ _ _
      | exact ih2 _ _ _ _ _ _
      | exact ih3 _ _ _ _ _ _ _ _ _ _ _
      | exact sphragisref08_Has.mono _ _ _ _ _ _
      | exact sphragisref08_Quarter.mono _ _ _ _ _
      | exact sphragisref09_around.mono _ _
      | exact LeO.none _
      | refine LeO.ite ?_ ?_
      | refine LeO.bind ?_ (fun _ => ?_)
theorem sphragisref09_tree.mono : ∀ a0 k, LeO (sphragisref09_tree.f k a0) (sphragisref09_tree.f (k + 1) a0) := by
  intro a0 k
  obtain ⟨ih0, ih1, ih2, ih3⟩ := sphragisref09_tree.mono_l k
  exact ih0 a0
def sphragisref09_tree.T15 : Bool × List (List Nat × List Nat) := (true, [([], []), ([], []), ([], []), ([1, 2], [1, 2]), ([3], [3]), ([4], [4]), ([], []), ([], []), ([6, 7], [6, 7]), ([8], [8]), ([9], [9]), ([0, 5, 10], [0, 5, 10]), ([11, 11, 0, 1, 2, 3, 4, 5, 6, 7, 8, 9, 10, 11], [11])])
def sphragisref09_tree.B15 : List Nat := [0, 0, 0, 6, 14, 30, 0, 0, 192, 448, 960, 2047, 4095]
theorem sphragisref09_tree.tab15 : rtab .any (opsOf Try.f34 15) = sphragisref09_tree.T15 := by kernel_rfl
theorem sphragisref09_tree.bits15 : waitsOk sphragisref09_tree.T15.2 sphragisref09_tree.B15 = true := by kernel_rfl
def sphragisref09_tree.T19 : Bool × List (List Nat × List Nat) := (true, [([], []), ([0], [0]), ([], []), ([2], [2]), ([3], [3]), ([1, 4, 3], [1, 4]), ([0, 1, 2, 3, 4, 5], []), ([6, 5, 5, 0, 1, 2, 3, 4, 5], [5, 6])])
def sphragisref09_tree.B19 : List Nat := [0, 1, 0, 4, 12, 31, 63, 127]
theorem sphragisref09_tree.tab19 : rtab .any (opsOf Try.f34 19) = sphragisref09_tree.T19 := by kernel_rfl
theorem sphragisref09_tree.bits19 : waitsOk sphragisref09_tree.T19.2 sphragisref09_tree.B19 = true := by kernel_rfl
set_option maxHeartbeats 8000000 in
set_option maxRecDepth 100000 in
theorem sphragisref09_tree.calls (k : Nat) : ∀ (A0 : Option Addr) (c0 : Nat) (l0 : List (S26)) (r1 : Int) (r2 : Int) (r3 : Int) (r4 : List (S26)) (r5 : List (S33)) (w : World) (hr0 : Kd.C k26 w A0 l0.length l0) (hc0 : l0.length ≤ c0) (h : sphragisref09_tree.f k l0 = some (r1, r2, r3, r4, r5)),
    Calls Try.prog 34 #[.slice A0 l0.length c0] w fun e w' => ∃ v3_ v4_ : Value, e = .returned (.agg #[.int .u32 r1, .int .u32 r2, .int .i64 r3, v3_, v4_]) ∧ Kd.R k26 26 w' w.heap.size (fun _ => True) v3_ r4 ∧ Kd.R k33 33 w' w.heap.size (fun k_ => some k_ ≠ (v3_ : Value).ownBlock) v4_ r5 ∧ Below w.heap.size w w' := by
  induction k using Nat.strongRecOn with
  | _ k ih =>
  intro A0 c0 l0 r1 r2 r3 r4 r5 w hr0 hc0 h
  cases k with
  | zero => exact absurd h (by simp [sphragisref09_tree.f])
  | succ k =>
  simp only [sphragisref09_tree.f] at h
  have hu33 := Try.underlying33
  have hu30 := Try.underlying30
  have hu26 := Try.underlying26
  have HR0 := Aside0.mk hr0
  have HC0 := Aside0.mk hc0
  clear hr0 hc0
  have HB := Aside0.mk (Below.refl w.heap.size w)
  have H : (if (l0.length : Int) = 0 then (some (0, 0, 0, ([] : List (S26)), ([] : List (S33)))) else ((sphragisref09_around.f k l0).bind fun bt203 => (if (l0.length : Int) ≤ 4 then (sphragisref09_tree.j0 k l0 true bt203.1 bt203.2.1 bt203.2.2) else (sphragisref09_tree.j0 k l0 (bt203.2.2 == 0) bt203.1 bt203.2.1 bt203.2.2)))) = some (r1, r2, r3, r4, r5) := h
  clear h
  by_cases c2 : (l0.length : Int) = 0
  · rw [if_pos c2] at H
    have c2b0 : ((l0.length : Int) == 0) = true := beq_iff_eq.mpr c2
    have c2b1 : ((l0.length : Int) != 0) = false := bne_eq_false_iff_eq.mpr c2
    clear c2
    simp only [Option.some.injEq, Prod.mk.injEq] at H
    obtain ⟨rfl, rfl, rfl, rfl, rfl⟩ := H
    go_enter Try.func34, Try.ntmps34
    go_wp2_with (first | ((with_reducible refine gate_dst (N := 2) rfl ?_); refine box_event ?hg (N := 2) ?hd (cs := #[.int .u32 0, .int .u32 0, .int .i64 0, .slice none 0 0, .slice none 0 0]) (t := 33) ?hr ?_; (case hd => rfl); (case hg => rfl); (case hr => first | (go_simp; done) | (go_simp; rfl)); intro gb202 hg w3 hbox hb; have n0_ := Aside0.mk (below_step (by repeat (first | (with_reducible first | exact HB.out | apply below_alloc | apply pw_below_drewN | apply below_drew1) | exact HB.out)) hb); have n1_ := Aside0.mk (hbox); have n2_ := Aside0.mk ((by rw [hg]; exact (below_size (by repeat (first | (with_reducible first | exact HB.out | apply below_alloc | apply pw_below_drewN | apply below_drew1) | exact HB.out))) : w.heap.size ≤ gb202)); have n3_ := Aside0.mk ((by rw [hg]; exact (below_size (by repeat (first | (with_reducible first | exact HB.out | apply below_alloc | apply pw_below_drewN | apply below_drew1) | exact HB.out))) : w.heap.size ≤ gb202)); clear HB; have HB := n0_; have BK202 := n1_; have GW202 := n2_; have GE202 := n3_; clear n0_ n1_ n2_ n3_; clear hb hbox hg; have hcz4_0 : w3.cell? ⟨gb202, 0, none⟩ = some (.int .u32 0) := (blk_cell BK202.out 0).trans rfl; have hcz4_1 : w3.cell? ⟨gb202, 1, none⟩ = some (.int .u32 0) := (blk_cell BK202.out 1).trans rfl; have hcz4_2 : w3.cell? ⟨gb202, 2, none⟩ = some (.int .i64 0) := (blk_cell BK202.out 2).trans rfl; have hcz4_3 : w3.cell? ⟨gb202, 3, none⟩ = some (.slice none 0 0) := (blk_cell BK202.out 3).trans rfl; have hcz4_4 : w3.cell? ⟨gb202, 4, none⟩ = some (.slice none 0 0) := (blk_cell BK202.out 4).trans rfl; have hfz4_0 := blk_frozen BK202.out 0; have hfz4_1 := blk_frozen BK202.out 1; have hfz4_2 := blk_frozen BK202.out 2; have hfz4_3 := blk_frozen BK202.out 3; have hfz4_4 := blk_frozen BK202.out 4))
    refine bodyPost_ret (results_cell_row rfl _ _ gb202 33 #[.int .u32 0, .int .u32 0, .int .i64 0, .slice none 0 0, .slice none 0 0] (0, 0) _ rfl (by (with_reducible repeat (first | refine blk_drewN ?_ _ | refine blk_drew ?_ | refine blk_alloc ?_ _)); refine blk_put (cs := #[.int .u32 0, .int .u32 0, .int .i64 0, .slice none 0 0, .slice none 0 0]) ?_ 4 _ (by first | rfl | (simp; done)); (with_reducible repeat (first | refine blk_drewN ?_ _ | refine blk_drew ?_ | refine blk_alloc ?_ _)); refine blk_put (cs := #[.int .u32 0, .int .u32 0, .int .i64 0, .slice none 0 0, .slice none 0 0]) ?_ 3 _ (by first | rfl | (simp; done)); (with_reducible repeat (first | refine blk_drewN ?_ _ | refine blk_drew ?_ | refine blk_alloc ?_ _)); refine blk_put (cs := #[.int .u32 0, .int .u32 0, .int .i64 0, .slice none 0 0, .slice none 0 0]) ?_ 2 _ (by first | rfl | (simp; done)); (with_reducible repeat (first | refine blk_drewN ?_ _ | refine blk_drew ?_ | refine blk_alloc ?_ _)); refine blk_put (cs := #[.int .u32 0, .int .u32 0, .int .i64 0, .slice none 0 0, .slice none 0 0]) ?_ 1 _ (by first | rfl | (simp; done)); (with_reducible repeat (first | refine blk_drewN ?_ _ | refine blk_drew ?_ | refine blk_alloc ?_ _)); refine blk_put (cs := #[.int .u32 0, .int .u32 0, .int .i64 0, .slice none 0 0, .slice none 0 0]) ?_ 0 _ (by first | rfl | (simp; done)); (with_reducible repeat (first | refine blk_drewN ?_ _ | refine blk_drew ?_ | refine blk_alloc ?_ _)); exact BK202.out) Try.underlying33 rfl (by kernel_rfl)) rfl ?_
    exact ⟨_, _, by first | rfl | (simp [errW_none, errW_some] <;> rfl) | (simp [*, errW_none, errW_some] <;> rfl), by first | exact Kd.R_nil _ _ _ _ _ | exact Kd.N_nil _ _ _ _ _ | exact Kd.V_nil _ _ _ _ _ | exact Kd.Q_nil _ _ _ _ _ | exact Kd.S_nil _ _ _ _ _, by first | exact Kd.R_nil _ _ _ _ _ | exact Kd.N_nil _ _ _ _ _ | exact Kd.V_nil _ _ _ _ _ | exact Kd.Q_nil _ _ _ _ _ | exact Kd.S_nil _ _ _ _ _, by repeat (first | (with_reducible first | exact HB.out | apply below_alloc | apply pw_below_drewN | apply below_drew1 | refine below_set ?_ GE202.out) | exact HB.out)⟩
  · rw [if_neg c2] at H
    have c2b0 : ((l0.length : Int) == 0) = false := beq_eq_false_iff_ne.mpr c2
    have c2b1 : ((l0.length : Int) != 0) = true := bne_iff_ne.mpr c2
    have c2b2 : ¬ (l0 = []) := fun h_ => c2 (by rw [h_]; rfl)
    replace H := Option.bind_eq_some_iff.mp H
    obtain ⟨⟨t203, t204, t205⟩, A50, H⟩ := H
    replace H : (if (l0.length : Int) ≤ 4 then (sphragisref09_tree.j0 k l0 true t203 t204 t205) else (sphragisref09_tree.j0 k l0 (t205 == 0) t203 t204 t205)) = some (r1, r2, r3, r4, r5) := H
    have A5 := Aside0.mk A50
    clear A50
    have HC6 := Aside0.mk H
    clear H
    go_enter Try.func34, Try.ntmps34
    go_upto_region 4 with (first | ((with_reducible refine gate_dst (N := 2) rfl ?_); refine box_event ?hg (N := 2) ?hd (cs := #[.int .u32 0, .int .u32 0, .int .i64 0, .slice none 0 0, .slice none 0 0]) (t := 33) ?hr ?_; (case hd => rfl); (case hg => rfl); (case hr => first | (go_simp; done) | (go_simp; rfl)); intro gb202 hg w7 hbox hb; have n0_ := Aside0.mk (below_step (by repeat (first | (with_reducible first | exact HB.out | apply below_alloc | apply pw_below_drewN | apply below_drew1) | exact HB.out)) hb); have n1_ := Aside0.mk (hbox); have n2_ := Aside0.mk ((by rw [hg]; exact (below_size (by repeat (first | (with_reducible first | exact HB.out | apply below_alloc | apply pw_below_drewN | apply below_drew1) | exact HB.out))) : w.heap.size ≤ gb202)); have n3_ := Aside0.mk ((by rw [hg]; exact (below_size (by repeat (first | (with_reducible first | exact HB.out | apply below_alloc | apply pw_below_drewN | apply below_drew1) | exact HB.out))) : w.heap.size ≤ gb202)); clear HB; have HB := n0_; have BK202 := n1_; have GW202 := n2_; have GE202 := n3_; clear n0_ n1_ n2_ n3_; clear hb hbox hg) | ((with_reducible refine gate_callee (f := 59) rfl ?_); refine goesL_ (some 15) rfl rfl Try.func59 (by kernel_rfl) rfl #[.slice A0 l0.length c0] rfl (by (try simp only [List.map_toArray, List.map_cons, List.map_nil]); first | done | rfl | (simp only [List.length_drop, List.length_take]; rfl)) ?_; (with_reducible refine (sphragisref09_around.calls k _ _ l0 t203 t204 t205 _ ?side1 ?side2 A5.out).mono ?_); (case side1 => repeat (first | exact (Kd.C_below HR0.out HB.out) | (with_reducible refine Kd.C_alloc ?_ _) | (with_reducible refine Kd.C_drewN ?_ _) | (with_reducible refine Kd.C_drew ?_))); (case side2 => exact HC0.out); rintro e w8 ⟨rfl, hb⟩; refine ⟨_, rfl, ?_⟩; have n0_ := Aside0.mk (blk_below (g := gb202) (o := .cells #[.int .u32 0, .int .u32 0, .int .i64 0, .slice none 0 0, .slice none 0 0] 33 (0, 0)) (by (with_reducible repeat (first | refine blk_drewN ?_ _ | refine blk_drew ?_ | refine blk_alloc ?_ _)); exact BK202.out) hb); have n1_ := Aside0.mk (below_step (by repeat (first | (with_reducible first | exact HB.out | apply below_alloc | apply pw_below_drewN | apply below_drew1 | refine below_set ?_ GE202.out) | exact HB.out)) hb); clear BK202; clear HB; have BK202 := n0_; have HB := n1_; clear n0_ n1_; (try clear hb); (try clear hb2); (try clear hk); (try clear hi)) | ((with_reducible refine gate_dst (N := 3) rfl ?_); refine box_event ?hg (N := 3) ?hd (cs := #[.int .u32 0, .int .u32 0, .int .i64 0, .slice none 0 0, .slice none 0 0]) (t := 33) ?hr ?_; (case hd => rfl); (case hg => rfl); (case hr => first | (go_simp; done) | (go_simp; rfl)); intro gb206 hg w9 hbox hb; have n0_ := Aside0.mk (blk_below (g := gb202) (o := .cells #[.int .u32 0, .int .u32 0, .int .i64 0, .slice none 0 0, .slice none 0 0] 33 (0, 0)) (by (with_reducible repeat (first | refine blk_drewN ?_ _ | refine blk_drew ?_ | refine blk_alloc ?_ _)); exact BK202.out) hb); have n1_ := Aside0.mk (below_step (by repeat (first | (with_reducible first | exact HB.out | apply below_alloc | apply pw_below_drewN | apply below_drew1 | refine below_set ?_ GE202.out) | exact HB.out)) hb); have n2_ := Aside0.mk (hbox); have n3_ := Aside0.mk ((by rw [hg]; exact (below_size (by repeat (first | (with_reducible first | exact HB.out | apply below_alloc | apply pw_below_drewN | apply below_drew1 | refine below_set ?_ GE202.out) | exact HB.out))) : w.heap.size ≤ gb206)); have n4_ := Aside0.mk ((by rw [hg]; exact (below_size (by repeat (first | (with_reducible first | exact HB.out | apply below_alloc | apply pw_below_drewN | apply below_drew1 | refine below_set ?_ GE202.out) | exact HB.out))) : w.heap.size ≤ gb206)); have n5_ := Aside0.mk ((by rw [hg]; exact Nat.ne_of_lt (blk_lt (g := gb202) (o := .cells #[.int .u32 0, .int .u32 0, .int .i64 0, .slice none 0 0, .slice none 0 0] 33 (0, 0)) (by (with_reducible repeat (first | refine blk_drewN ?_ _ | refine blk_drew ?_ | refine blk_alloc ?_ _)); exact BK202.out)) : gb202 ≠ gb206)); have n6_ := Aside0.mk ((by rw [hg]; exact Nat.ne_of_gt (blk_lt (g := gb202) (o := .cells #[.int .u32 0, .int .u32 0, .int .i64 0, .slice none 0 0, .slice none 0 0] 33 (0, 0)) (by (with_reducible repeat (first | refine blk_drewN ?_ _ | refine blk_drew ?_ | refine blk_alloc ?_ _)); exact BK202.out)) : gb206 ≠ gb202)); clear BK202; clear HB; have BK202 := n0_; have HB := n1_; have BK206 := n2_; have GW206 := n3_; have GE206 := n4_; have NB202_206 := n5_; have NB206_202 := n6_; clear n0_ n1_ n2_ n3_ n4_ n5_ n6_; clear hb hbox hg; have hnb10 := NB206_202.out; have hnc10 := NB202_206.out; have hcz11_0 : w9.cell? ⟨gb206, 0, none⟩ = some (.int .u32 0) := (blk_cell BK206.out 0).trans rfl; have hcz11_1 : w9.cell? ⟨gb206, 1, none⟩ = some (.int .u32 0) := (blk_cell BK206.out 1).trans rfl; have hcz11_2 : w9.cell? ⟨gb206, 2, none⟩ = some (.int .i64 0) := (blk_cell BK206.out 2).trans rfl; have hcz11_3 : w9.cell? ⟨gb206, 3, none⟩ = some (.slice none 0 0) := (blk_cell BK206.out 3).trans rfl; have hcz11_4 : w9.cell? ⟨gb206, 4, none⟩ = some (.slice none 0 0) := (blk_cell BK206.out 4).trans rfl; have hfz11_0 := blk_frozen BK206.out 0; have hfz11_1 := blk_frozen BK206.out 1; have hfz11_2 := blk_frozen BK206.out 2; have hfz11_3 := blk_frozen BK206.out 3; have hfz11_4 := blk_frozen BK206.out 4))
    (try simp only [Act.put, List.setIfInBounds_toArray, List.set_cons_zero, List.set_cons_succ])
    go_cut [25] (fun v25 wc => ∃ (kq : Nat) (x25_5 : Bool), v25 = .bool x25_5 ∧ Aside0 (sphragisref09_tree.j0 kq l0 x25_5 t203 t204 t205 = some (r1, r2, r3, r4, r5)) ∧ Aside0 (kq ≤ k) ∧ Aside0 (wc.heap[gb202]? = some (.cells #[.int .u32 0, .int .u32 0, .int .i64 0, (.slice none 0 0), (.slice none 0 0)] 33 (0, 0))) ∧ Aside0 (wc.heap[gb206]? = some (.cells #[.int .u32 t203, .int .u32 t204, .int .i64 t205, (.slice none 0 0), (.slice none 0 0)] 33 (0, 0))) ∧ Aside0 (Below w.heap.size w wc))
    case first =>
      have H := HC6.out
      clear HC6
      by_cases c12 : (l0.length : Int) ≤ 4
      · rw [if_pos c12] at H
        have c12b0 : decide ((l0.length : Int) ≤ 4) = true := decide_eq_true c12
        have c12b1 : decide (l0.length ≤ 4) = true := decide_eq_true (by omega)
        clear c12
        (first | rw [c12b0] | (simp only [i64_w, i32_w]; rw [c12b0]) | skip)
        have H' := Aside0.mk H
        clear H
        go_wp2
        go_meet
        case rel => exact ⟨_, (true), (by first | rfl | (simp; done) | (simp [*]; done)), H', ⟨by first | omega | exact Nat.le_refl _⟩, ⟨by (with_reducible repeat (first | refine blk_drewN ?_ _ | refine blk_drew ?_ | refine blk_alloc ?_ _)); refine blk_far ?_ NB202_206.out _; (with_reducible repeat (first | refine blk_drewN ?_ _ | refine blk_drew ?_ | refine blk_alloc ?_ _)); refine blk_far ?_ NB202_206.out _; (with_reducible repeat (first | refine blk_drewN ?_ _ | refine blk_drew ?_ | refine blk_alloc ?_ _)); refine blk_far ?_ NB202_206.out _; (with_reducible repeat (first | refine blk_drewN ?_ _ | refine blk_drew ?_ | refine blk_alloc ?_ _)); refine blk_far ?_ NB202_206.out _; (with_reducible repeat (first | refine blk_drewN ?_ _ | refine blk_drew ?_ | refine blk_alloc ?_ _)); refine blk_far ?_ NB202_206.out _; (with_reducible repeat (first | refine blk_drewN ?_ _ | refine blk_drew ?_ | refine blk_alloc ?_ _)); exact BK202.out⟩, ⟨by (with_reducible repeat (first | refine blk_drewN ?_ _ | refine blk_drew ?_ | refine blk_alloc ?_ _)); refine blk_put (cs := #[.int .u32 t203, .int .u32 t204, .int .i64 t205, .slice none 0 0, .slice none 0 0]) ?_ 4 _ (by first | rfl | (simp; done)); (with_reducible repeat (first | refine blk_drewN ?_ _ | refine blk_drew ?_ | refine blk_alloc ?_ _)); refine blk_put (cs := #[.int .u32 t203, .int .u32 t204, .int .i64 t205, .slice none 0 0, .slice none 0 0]) ?_ 3 _ (by first | rfl | (simp; done)); (with_reducible repeat (first | refine blk_drewN ?_ _ | refine blk_drew ?_ | refine blk_alloc ?_ _)); refine blk_put (cs := #[.int .u32 t203, .int .u32 t204, .int .i64 0, .slice none 0 0, .slice none 0 0]) ?_ 2 _ (by first | rfl | (simp; done)); (with_reducible repeat (first | refine blk_drewN ?_ _ | refine blk_drew ?_ | refine blk_alloc ?_ _)); refine blk_put (cs := #[.int .u32 t203, .int .u32 0, .int .i64 0, .slice none 0 0, .slice none 0 0]) ?_ 1 _ (by first | rfl | (simp; done)); (with_reducible repeat (first | refine blk_drewN ?_ _ | refine blk_drew ?_ | refine blk_alloc ?_ _)); refine blk_put (cs := #[.int .u32 0, .int .u32 0, .int .i64 0, .slice none 0 0, .slice none 0 0]) ?_ 0 _ (by first | rfl | (simp; done)); (with_reducible repeat (first | refine blk_drewN ?_ _ | refine blk_drew ?_ | refine blk_alloc ?_ _)); exact BK206.out⟩, ⟨by repeat (first | (with_reducible first | exact HB.out | apply below_alloc | apply pw_below_drewN | apply below_drew1 | refine below_set ?_ GE202.out | refine below_set ?_ GE206.out) | exact HB.out)⟩⟩
      · rw [if_neg c12] at H
        have c12b0 : decide ((l0.length : Int) ≤ 4) = false := decide_eq_false c12
        have c12b1 : decide (l0.length ≤ 4) = false := decide_eq_false (by omega)
        clear c12
        (first | rw [c12b0] | (simp only [i64_w, i32_w]; rw [c12b0]) | skip)
        have H' := Aside0.mk H
        clear H
        have hnb13 := NB206_202.out
        have hnc13 := NB202_206.out
        have hcz14_0 : w9.cell? ⟨gb206, 0, none⟩ = some (.int .u32 0) := (blk_cell BK206.out 0).trans rfl
        have hcz14_1 : w9.cell? ⟨gb206, 1, none⟩ = some (.int .u32 0) := (blk_cell BK206.out 1).trans rfl
        have hcz14_2 : w9.cell? ⟨gb206, 2, none⟩ = some (.int .i64 0) := (blk_cell BK206.out 2).trans rfl
        have hcz14_3 : w9.cell? ⟨gb206, 3, none⟩ = some (.slice none 0 0) := (blk_cell BK206.out 3).trans rfl
        have hcz14_4 : w9.cell? ⟨gb206, 4, none⟩ = some (.slice none 0 0) := (blk_cell BK206.out 4).trans rfl
        have hfz14_0 := blk_frozen BK206.out 0
        have hfz14_1 := blk_frozen BK206.out 1
        have hfz14_2 := blk_frozen BK206.out 2
        have hfz14_3 := blk_frozen BK206.out 3
        have hfz14_4 := blk_frozen BK206.out 4
        go_wp2
        go_meet
        case rel => exact ⟨_, ((t205 == 0)), (by first | rfl | (simp; done) | (simp [*]; done)), H', ⟨by first | omega | exact Nat.le_refl _⟩, ⟨by (with_reducible repeat (first | refine blk_drewN ?_ _ | refine blk_drew ?_ | refine blk_alloc ?_ _)); refine blk_far ?_ NB202_206.out _; (with_reducible repeat (first | refine blk_drewN ?_ _ | refine blk_drew ?_ | refine blk_alloc ?_ _)); refine blk_far ?_ NB202_206.out _; (with_reducible repeat (first | refine blk_drewN ?_ _ | refine blk_drew ?_ | refine blk_alloc ?_ _)); refine blk_far ?_ NB202_206.out _; (with_reducible repeat (first | refine blk_drewN ?_ _ | refine blk_drew ?_ | refine blk_alloc ?_ _)); refine blk_far ?_ NB202_206.out _; (with_reducible repeat (first | refine blk_drewN ?_ _ | refine blk_drew ?_ | refine blk_alloc ?_ _)); refine blk_far ?_ NB202_206.out _; (with_reducible repeat (first | refine blk_drewN ?_ _ | refine blk_drew ?_ | refine blk_alloc ?_ _)); exact BK202.out⟩, ⟨by (with_reducible repeat (first | refine blk_drewN ?_ _ | refine blk_drew ?_ | refine blk_alloc ?_ _)); refine blk_put (cs := #[.int .u32 t203, .int .u32 t204, .int .i64 t205, .slice none 0 0, .slice none 0 0]) ?_ 4 _ (by first | rfl | (simp; done)); (with_reducible repeat (first | refine blk_drewN ?_ _ | refine blk_drew ?_ | refine blk_alloc ?_ _)); refine blk_put (cs := #[.int .u32 t203, .int .u32 t204, .int .i64 t205, .slice none 0 0, .slice none 0 0]) ?_ 3 _ (by first | rfl | (simp; done)); (with_reducible repeat (first | refine blk_drewN ?_ _ | refine blk_drew ?_ | refine blk_alloc ?_ _)); refine blk_put (cs := #[.int .u32 t203, .int .u32 t204, .int .i64 0, .slice none 0 0, .slice none 0 0]) ?_ 2 _ (by first | rfl | (simp; done)); (with_reducible repeat (first | refine blk_drewN ?_ _ | refine blk_drew ?_ | refine blk_alloc ?_ _)); refine blk_put (cs := #[.int .u32 t203, .int .u32 0, .int .i64 0, .slice none 0 0, .slice none 0 0]) ?_ 1 _ (by first | rfl | (simp; done)); (with_reducible repeat (first | refine blk_drewN ?_ _ | refine blk_drew ?_ | refine blk_alloc ?_ _)); refine blk_put (cs := #[.int .u32 0, .int .u32 0, .int .i64 0, .slice none 0 0, .slice none 0 0]) ?_ 0 _ (by first | rfl | (simp; done)); (with_reducible repeat (first | refine blk_drewN ?_ _ | refine blk_drew ?_ | refine blk_alloc ?_ _)); exact BK206.out⟩, ⟨by repeat (first | (with_reducible first | exact HB.out | apply below_alloc | apply pw_below_drewN | apply below_drew1 | refine below_set ?_ GE202.out | refine below_set ?_ GE206.out) | exact HB.out)⟩⟩
    case rest =>
      clear HC6
      try clear c1
      try clear c2
      try clear c2b0
      try clear c2b1
      try clear c2b2
      try clear p2
      try clear c3
      try clear c5
      try clear c10
      try clear c12
      try clear c12b0
      try clear c12b1
      try clear c13
      try clear hcz11_0
      try clear hcz11_1
      try clear hcz11_2
      try clear hcz11_3
      try clear hcz11_4
      try clear hcz14_0
      try clear hcz14_1
      try clear hcz14_2
      try clear hcz14_3
      try clear hcz14_4
      try clear hcz4_0
      try clear hcz4_1
      try clear hcz4_2
      try clear hcz4_3
      try clear hcz4_4
      try clear hfz11_0
      try clear hfz11_1
      try clear hfz11_2
      try clear hfz11_3
      try clear hfz11_4
      try clear hfz14_0
      try clear hfz14_1
      try clear hfz14_2
      try clear hfz14_3
      try clear hfz14_4
      try clear hfz4_0
      try clear hfz4_1
      try clear hfz4_2
      try clear hfz4_3
      try clear hfz4_4
      obtain ⟨kq, x25_5, rfl, HA, HJ5, BK202, BK206, HB⟩ := hcut
      cases kq with
      | zero => exact absurd HA.out (by simp [sphragisref09_tree.j0])
      | succ kj5 =>
        have H := HA.out
        clear HA
        simp only [sphragisref09_tree.j0] at H
        by_cases c15 : x25_5 = true
        · subst c15
          have H1 : (if 0 ≤ (l0.length : Int) then (if ((l0.length : Int) : Int).toNat ≤ 8796093022208 then ((some (([] : List (S26)) : List (S26))).bind fun y207 => (if y207.length + l0.length < 4398046511104 then (some (t203, t204, t205, (y207 ++ l0), ([] : List (S33)))) else (none))) else (none)) else (none)) = some (r1, r2, r3, r4, r5) := by rw [if_pos rfl] at H; exact H
          clear H
          have H := H1
          clear H1
          by_cases c16 : 0 ≤ (l0.length : Int)
          · rw [if_pos c16] at H
            have c16b0 := eq_true c16
            have c16b1 : decide (0 ≤ (l0.length : Int)) = true := decide_eq_true c16
            clear c16
            by_cases c17 : ((l0.length : Int) : Int).toNat ≤ 8796093022208
            · rw [if_pos c17] at H
              have c17b0 := eq_true c17
              have c17b1 : decide (((l0.length : Int) : Int).toNat ≤ 8796093022208) = true := decide_eq_true c17
              clear c17
              obtain ⟨y207, hy207⟩ : ∃ y_ : List (S26), y_ = (([] : List (S26))) := ⟨_, rfl⟩
              replace H : (if y207.length + l0.length < 4398046511104 then (some (t203, t204, t205, (y207 ++ l0), ([] : List (S33)))) else (none)) = some (r1, r2, r3, r4, r5) := by first | (rw [hy207]; with_reducible exact H) | (have H2_ := (Option.bind_some _ _).symm.trans H; rw [hy207]; with_reducible exact H2_) | (have H2_ := (Option.bind_some _ _).symm.trans H; with_reducible exact H2_) | with_reducible exact H | (rw [hy207]; exact H) | exact H
              have Ny207 := Aside0.mk hy207
              clear hy207
              by_cases c18 : y207.length + l0.length < 4398046511104
              · rw [if_pos c18] at H
                have LMc18 := Aside0.mk c18
                clear c18
                obtain ⟨y210, hy210⟩ : ∃ y_ : List (S26), y_ = (y207 ++ l0) := ⟨_, rfl⟩
                replace H : (some (t203, t204, t205, y210, ([] : List (S33)))) = some (r1, r2, r3, r4, r5) := by first | (rw [hy210]; with_reducible exact H) | (have H2_ := (Option.bind_some _ _).symm.trans H; rw [hy210]; with_reducible exact H2_) | (have H2_ := (Option.bind_some _ _).symm.trans H; with_reducible exact H2_) | with_reducible exact H | (rw [hy210]; exact H) | exact H
                have Ny210 := Aside0.mk hy210
                clear hy210
                simp only [Option.some.injEq, Prod.mk.injEq] at H
                obtain ⟨rfl, rfl, rfl, rfl, rfl⟩ := H
                go_wp2_with (first | ((with_reducible refine gate_dst (N := 28) rfl ?_); refine Kd.R_make0 k26 _ 26 rfl (N := 28) rfl 22 _ _ rfl (l0.length : Int) rfl rfl Try.underlying22 (.agg #[(.int .u64 0), (.int .u32 0), (.int .u32 0), (.string ⟨#[]⟩)]) 32 info26 rfl (by decide) (by omega) (ok := fun _ => True) trivial (of_decide_eq_true (by first | (with_reducible assumption) | assumption)) (Nat.le_trans (Nat.mul_le_mul_right _ (of_decide_eq_true (by first | (with_reducible assumption) | assumption) : ((l0.length : Int) : Int).toNat ≤ 8796093022208)) (by omega)) (Below.refl _ _) (Nat.le_refl _) ?_; intro v208 w19 ho20 hb hg_ hnew_; clear hg_ hnew_; (first | rw [← Ny207.out] at ho20 | (simp only [Int.reduceToNat] at ho20; rw [← Ny207.out] at ho20)); have n0_ := Aside0.mk (Kd.R_lower ho20 (below_size (by repeat (first | (with_reducible first | exact HB.out | apply below_alloc | apply pw_below_drewN | apply below_drew1 | refine below_set ?_ GE202.out | refine below_set ?_ GE206.out) | exact HB.out)))); have n1_ := Aside0.mk (blk_below (g := gb202) (o := .cells #[.int .u32 0, .int .u32 0, .int .i64 0, .slice none 0 0, .slice none 0 0] 33 (0, 0)) (by (with_reducible repeat (first | refine blk_drewN ?_ _ | refine blk_drew ?_ | refine blk_alloc ?_ _)); exact BK202.out) hb); have n2_ := Aside0.mk (blk_below (g := gb206) (o := .cells #[.int .u32 t203, .int .u32 t204, .int .i64 t205, .slice none 0 0, .slice none 0 0] 33 (0, 0)) (by (with_reducible repeat (first | refine blk_drewN ?_ _ | refine blk_drew ?_ | refine blk_alloc ?_ _)); exact BK206.out) hb); have n3_ := Aside0.mk (below_step (by repeat (first | (with_reducible first | exact HB.out | apply below_alloc | apply pw_below_drewN | apply below_drew1 | refine below_set ?_ GE202.out | refine below_set ?_ GE206.out) | exact HB.out)) hb); clear BK202; clear BK206; clear HB; have HO209 := n0_; have BK202 := n1_; have BK206 := n2_; have HB := n3_; clear n0_ n1_ n2_ n3_; clear hb ho20) | ((with_reducible refine gate_builtin (b := .append) (xs := #[.tmp 28, .tmp 29]) rfl ?_); at_builtin; refine Kd.R_append_rows k26 (w0 := w) w.heap.size rfl (.tmp 28) (.tmp 29) 22 26 (.agg #[(.int .u64 0), (.int .u32 0), (.int .u32 0), (.string ⟨#[]⟩)]) 32 rfl Try.underlying22 info26 rfl (by decide) (by omega) v208 y207 l0 _ _ _ (fun _ => True) (fun _ => False) rfl rfl ?aO ?aR (fun _ _ h => h) (fun _ h => h.elim) ?aF ?aB ?aS ?aL ?_; (case aR => repeat (first | exact (Kd.C_below HR0.out HB.out) | (with_reducible refine Kd.C_alloc ?_ _) | (with_reducible refine Kd.C_drewN ?_ _) | (with_reducible refine Kd.C_drew ?_))); (case aB => exact (by repeat (first | (with_reducible first | exact HB.out | apply below_alloc | apply pw_below_drewN | apply below_drew1 | refine below_set ?_ GE202.out | refine below_set ?_ GE206.out) | exact HB.out))); (case aF => exact (fun _ _ => trivial)); (case aO => exact (by (with_reducible repeat (first | apply Kd.R_alloc | apply Kd.R_drewN | apply Kd.R_drew)); exact HO209.out)); (case aS => exact (below_size (by repeat (first | (with_reducible first | exact HB.out | apply below_alloc | apply pw_below_drewN | apply below_drew1 | refine below_set ?_ GE202.out | refine below_set ?_ GE206.out) | exact HB.out)))); (case aL => have := LMc18.out; omega); intro v211 w21 ho hb hg hat; rw [← Ny210.out] at ho; have n0_ := Aside0.mk (blk_grown (g := gb202) (o := .cells #[.int .u32 0, .int .u32 0, .int .i64 0, .slice none 0 0, .slice none 0 0] 33 (0, 0)) (by (with_reducible repeat (first | refine blk_drewN ?_ _ | refine blk_drew ?_ | refine blk_alloc ?_ _)); exact BK202.out) hg (Kd.R_ne HO209.out BK202.out (by decide))); have n1_ := Aside0.mk (blk_grown (g := gb206) (o := .cells #[.int .u32 t203, .int .u32 t204, .int .i64 t205, .slice none 0 0, .slice none 0 0] 33 (0, 0)) (by (with_reducible repeat (first | refine blk_drewN ?_ _ | refine blk_drew ?_ | refine blk_alloc ?_ _)); exact BK206.out) hg (Kd.R_ne HO209.out BK206.out (by decide))); have n2_ := Aside0.mk (hb); have n3_ := Aside0.mk (ho); clear BK202; clear BK206; clear HB; clear HO209; have BK202 := n0_; have BK206 := n1_; have HB := n2_; have HO212 := n3_; clear n0_ n1_ n2_ n3_; clear ho hb hg hat; obtain ⟨Ao22, co22, eo22⟩ := Kd.R_slice HO212.out; subst eo22; have hnb23 := NB206_202.out; have hnc23 := NB202_206.out; have hcz24_0 : w21.cell? ⟨gb206, 0, none⟩ = some (.int .u32 t203) := (blk_cell BK206.out 0).trans rfl; have hcz24_1 : w21.cell? ⟨gb206, 1, none⟩ = some (.int .u32 t204) := (blk_cell BK206.out 1).trans rfl; have hcz24_2 : w21.cell? ⟨gb206, 2, none⟩ = some (.int .i64 t205) := (blk_cell BK206.out 2).trans rfl; have hcz24_3 : w21.cell? ⟨gb206, 3, none⟩ = some (.slice none 0 0) := (blk_cell BK206.out 3).trans rfl; have hcz24_4 : w21.cell? ⟨gb206, 4, none⟩ = some (.slice none 0 0) := (blk_cell BK206.out 4).trans rfl; have hfz24_0 := blk_frozen BK206.out 0; have hfz24_1 := blk_frozen BK206.out 1; have hfz24_2 := blk_frozen BK206.out 2; have hfz24_3 := blk_frozen BK206.out 3; have hfz24_4 := blk_frozen BK206.out 4; have hcz25_0 : w21.cell? ⟨gb202, 0, none⟩ = some (.int .u32 0) := (blk_cell BK202.out 0).trans rfl; have hcz25_1 : w21.cell? ⟨gb202, 1, none⟩ = some (.int .u32 0) := (blk_cell BK202.out 1).trans rfl; have hcz25_2 : w21.cell? ⟨gb202, 2, none⟩ = some (.int .i64 0) := (blk_cell BK202.out 2).trans rfl; have hcz25_3 : w21.cell? ⟨gb202, 3, none⟩ = some (.slice none 0 0) := (blk_cell BK202.out 3).trans rfl; have hcz25_4 : w21.cell? ⟨gb202, 4, none⟩ = some (.slice none 0 0) := (blk_cell BK202.out 4).trans rfl; have hfz25_0 := blk_frozen BK202.out 0; have hfz25_1 := blk_frozen BK202.out 1; have hfz25_2 := blk_frozen BK202.out 2; have hfz25_3 := blk_frozen BK202.out 3; have hfz25_4 := blk_frozen BK202.out 4))
                refine bodyPost_ret (results_cell_row rfl _ _ gb202 33 #[.int .u32 t203, .int .u32 t204, .int .i64 t205, .slice Ao22 y210.length co22, .slice none 0 0] (0, 0) _ rfl (by (with_reducible repeat (first | refine blk_drewN ?_ _ | refine blk_drew ?_ | refine blk_alloc ?_ _)); refine blk_put (cs := #[.int .u32 t203, .int .u32 t204, .int .i64 t205, .slice Ao22 y210.length co22, .slice none 0 0]) ?_ 4 _ (by first | rfl | (simp; done)); (with_reducible repeat (first | refine blk_drewN ?_ _ | refine blk_drew ?_ | refine blk_alloc ?_ _)); refine blk_put (cs := #[.int .u32 t203, .int .u32 t204, .int .i64 t205, .slice none 0 0, .slice none 0 0]) ?_ 3 _ (by first | rfl | (simp; done)); (with_reducible repeat (first | refine blk_drewN ?_ _ | refine blk_drew ?_ | refine blk_alloc ?_ _)); refine blk_put (cs := #[.int .u32 t203, .int .u32 t204, .int .i64 0, .slice none 0 0, .slice none 0 0]) ?_ 2 _ (by first | rfl | (simp; done)); (with_reducible repeat (first | refine blk_drewN ?_ _ | refine blk_drew ?_ | refine blk_alloc ?_ _)); refine blk_put (cs := #[.int .u32 t203, .int .u32 0, .int .i64 0, .slice none 0 0, .slice none 0 0]) ?_ 1 _ (by first | rfl | (simp; done)); (with_reducible repeat (first | refine blk_drewN ?_ _ | refine blk_drew ?_ | refine blk_alloc ?_ _)); refine blk_put (cs := #[.int .u32 0, .int .u32 0, .int .i64 0, .slice none 0 0, .slice none 0 0]) ?_ 0 _ (by first | rfl | (simp; done)); (with_reducible repeat (first | refine blk_drewN ?_ _ | refine blk_drew ?_ | refine blk_alloc ?_ _)); refine blk_far ?_ NB202_206.out _; (with_reducible repeat (first | refine blk_drewN ?_ _ | refine blk_drew ?_ | refine blk_alloc ?_ _)); exact BK202.out) Try.underlying33 rfl (by kernel_rfl)) rfl ?_
                exact ⟨_, _, by first | rfl | (simp [errW_none, errW_some] <;> rfl) | (simp [*, errW_none, errW_some] <;> rfl), by (with_reducible repeat (first | apply Kd.R_alloc | apply Kd.R_drewN | apply Kd.R_drew)); exact Kd.R_mono (Kd.R_far (p := ⟨gb202, 4, none⟩) (Kd.R_far (p := ⟨gb202, 3, none⟩) (Kd.R_far (p := ⟨gb202, 2, none⟩) (Kd.R_far (p := ⟨gb202, 1, none⟩) (Kd.R_far (p := ⟨gb202, 0, none⟩) (Kd.R_far (p := ⟨gb206, 3, none⟩) (Kd.R_types (Kd.R_types HO212.out BK206.out (by decide)) BK202.out (by decide)) (fun _ hk => hk.1.2) (.slice Ao22 y210.length co22)) (fun _ hk => hk.2) (.int .u32 t203)) (fun _ hk => hk.2) (.int .u32 t204)) (fun _ hk => hk.2) (.int .i64 t205)) (fun _ hk => hk.2) (.slice Ao22 y210.length co22)) (fun _ hk => hk.2) (.slice none 0 0)) (fun _ hk => trivial), by first | exact Kd.R_nil _ _ _ _ _ | exact Kd.N_nil _ _ _ _ _ | exact Kd.V_nil _ _ _ _ _ | exact Kd.Q_nil _ _ _ _ _ | exact Kd.S_nil _ _ _ _ _, by repeat (first | (with_reducible first | exact HB.out | apply below_alloc | apply pw_below_drewN | apply below_drew1 | refine below_set ?_ GE202.out | refine below_set ?_ GE206.out) | exact HB.out)⟩
              · rw [if_neg c18] at H
                exact absurd H (by simp)
            · rw [if_neg c17] at H
              exact absurd H (by simp)
          · rw [if_neg c16] at H
            exact absurd H (by simp)
        · replace c15 := Bool.eq_false_iff.mpr c15
          subst c15
          have H1 : (sphragisref09_tree.l0 kj5 l0 0 t203 t204 t205 ([] : List (S33))) = some (r1, r2, r3, r4, r5) := by rw [if_neg (show ¬ (false = true) by decide)] at H; exact H
          clear H
          have H := H1
          clear H1
          have H' := Aside0.mk H
          clear H
          go_wp2
          go_loopg [4] kj5 (fun kq v4 w' => ∃ (x4_2 : Int) (x207004_2 : List (S33)) (u207004 : Value), v4 = .int .i64 x4_2 ∧ Aside0 (sphragisref09_tree.l0 kq l0 x4_2 t203 t204 t205 x207004_2 = some (r1, r2, r3, r4, r5)) ∧ Aside0 (kq ≤ kj5) ∧ Aside0 (Kd.R k33 33 w' w.heap.size (fun k_ => k_ ≠ gb202 ∧ k_ ≠ gb206) u207004 x207004_2) ∧ Aside0 (w'.heap[gb202]? = some (.cells #[.int .u32 0, .int .u32 0, .int .i64 0, (.slice none 0 0), (.slice none 0 0)] 33 (0, 0))) ∧ Aside0 (w'.heap[gb206]? = some (.cells #[.int .u32 t203, .int .u32 t204, .int .i64 t205, (.slice none 0 0), u207004] 33 (0, 0))) ∧ Aside0 (Below w.heap.size w w'))
          case atStart => exact ⟨(0), (([] : List (S33))), (.slice none 0 0), (by first | rfl | (simp; done) | (simp [*]; done)), H', ⟨Nat.le_refl _⟩, ⟨by first | exact Kd.R_nil _ _ _ _ _ | exact Kd.N_nil _ _ _ _ _ | exact Kd.V_nil _ _ _ _ _ | exact Kd.Q_nil _ _ _ _ _ | exact Kd.S_nil _ _ _ _ _⟩, ⟨by (with_reducible repeat (first | refine blk_drewN ?_ _ | refine blk_drew ?_ | refine blk_alloc ?_ _)); exact BK202.out⟩, ⟨by (with_reducible repeat (first | refine blk_drewN ?_ _ | refine blk_drew ?_ | refine blk_alloc ?_ _)); exact BK206.out⟩, ⟨by repeat (first | (with_reducible first | exact HB.out | apply below_alloc | apply pw_below_drewN | apply below_drew1 | refine below_set ?_ GE202.out | refine below_set ?_ GE206.out) | exact HB.out)⟩⟩
          case round =>
            clear H'
            try clear c1
            try clear c2
            try clear c2b0
            try clear c2b1
            try clear c2b2
            try clear p2
            try clear c3
            try clear c5
            try clear c10
            try clear c12
            try clear c12b0
            try clear c12b1
            try clear c13
            try clear c15
            try clear c16
            try clear c16b0
            try clear c16b1
            try clear c17
            try clear c17b0
            try clear c17b1
            try clear c18
            try clear c23
            try clear hcz11_0
            try clear hcz11_1
            try clear hcz11_2
            try clear hcz11_3
            try clear hcz11_4
            try clear hcz14_0
            try clear hcz14_1
            try clear hcz14_2
            try clear hcz14_3
            try clear hcz14_4
            try clear hcz24_0
            try clear hcz24_1
            try clear hcz24_2
            try clear hcz24_3
            try clear hcz24_4
            try clear hcz25_0
            try clear hcz25_1
            try clear hcz25_2
            try clear hcz25_3
            try clear hcz25_4
            try clear hcz4_0
            try clear hcz4_1
            try clear hcz4_2
            try clear hcz4_3
            try clear hcz4_4
            try clear hfz11_0
            try clear hfz11_1
            try clear hfz11_2
            try clear hfz11_3
            try clear hfz11_4
            try clear hfz14_0
            try clear hfz14_1
            try clear hfz14_2
            try clear hfz14_3
            try clear hfz14_4
            try clear hfz24_0
            try clear hfz24_1
            try clear hfz24_2
            try clear hfz24_3
            try clear hfz24_4
            try clear hfz25_0
            try clear hfz25_1
            try clear hfz25_2
            try clear hfz25_3
            try clear hfz25_4
            try clear hfz4_0
            try clear hfz4_1
            try clear hfz4_2
            try clear hfz4_3
            try clear hfz4_4
            try clear p2
            obtain ⟨x4_2, x207004_2, u207004, rfl, HA, HK2, HO_207004, BK202, BK206, HB⟩ := hrel
            cases gk with
            | zero => exact absurd HA.out (by simp [sphragisref09_tree.l0])
            | succ k2 =>
              have H := HA.out
              clear HA
              simp only [sphragisref09_tree.l0] at H
              by_cases c26 : x4_2 < 4
              · rw [if_pos c26] at H
                have c26b0 : decide (x4_2 < 4) = true := decide_eq_true c26
                clear c26
                replace H := Option.bind_eq_some_iff.mp H
                obtain ⟨⟨t213, t214, t215, t216⟩, A270, H⟩ := H
                replace H : (sphragisref09_tree.l1 k2 l0 x4_2 ([] : List (S26)) 0 t203 t204 t205 x207004_2 t213 t214 t215) = some (r1, r2, r3, r4, r5) := H
                have A27 := Aside0.mk A270
                clear A270
                have H' := Aside0.mk H
                clear H
                have hnb28 := NB206_202.out
                have hnc28 := NB202_206.out
                have hcz29_0 : wr.cell? ⟨gb206, 0, none⟩ = some (.int .u32 t203) := (blk_cell BK206.out 0).trans rfl
                have hcz29_1 : wr.cell? ⟨gb206, 1, none⟩ = some (.int .u32 t204) := (blk_cell BK206.out 1).trans rfl
                have hcz29_2 : wr.cell? ⟨gb206, 2, none⟩ = some (.int .i64 t205) := (blk_cell BK206.out 2).trans rfl
                have hcz29_3 : wr.cell? ⟨gb206, 3, none⟩ = some (.slice none 0 0) := (blk_cell BK206.out 3).trans rfl
                have hcz29_4 : wr.cell? ⟨gb206, 4, none⟩ = some (u207004) := (blk_cell BK206.out 4).trans rfl
                have hfz29_0 := blk_frozen BK206.out 0
                have hfz29_1 := blk_frozen BK206.out 1
                have hfz29_2 := blk_frozen BK206.out 2
                have hfz29_3 := blk_frozen BK206.out 3
                have hfz29_4 := blk_frozen BK206.out 4
                go_wp2_with (first | ((with_reducible refine gate_callee (f := 60) rfl ?_); refine goesL_ (some 41) rfl rfl Try.func60 (by kernel_rfl) rfl #[.agg #[.int .u32 t203, .int .u32 t204, .int .i64 t205], .int .i64 x4_2] rfl (by (try simp only [List.map_toArray, List.map_cons, List.map_nil]); first | done | rfl | (simp only [List.length_drop, List.length_take]; rfl)) ?_; (with_reducible refine (sphragisref08_Quarter.calls k2 t203 t204 t205 x4_2 t213 t214 t215 t216 _ A27.out).mono ?_); rintro e w30 ⟨rfl, hb⟩; refine ⟨_, rfl, ?_⟩; have n0_ := Aside0.mk (Kd.R_below (by (with_reducible repeat (first | apply Kd.R_alloc | apply Kd.R_drewN | apply Kd.R_drew)); exact HO_207004.out) hb); have n1_ := Aside0.mk (blk_below (g := gb202) (o := .cells #[.int .u32 0, .int .u32 0, .int .i64 0, .slice none 0 0, .slice none 0 0] 33 (0, 0)) (by (with_reducible repeat (first | refine blk_drewN ?_ _ | refine blk_drew ?_ | refine blk_alloc ?_ _)); exact BK202.out) hb); have n2_ := Aside0.mk (blk_below (g := gb206) (o := .cells #[.int .u32 t203, .int .u32 t204, .int .i64 t205, .slice none 0 0, u207004] 33 (0, 0)) (by (with_reducible repeat (first | refine blk_drewN ?_ _ | refine blk_drew ?_ | refine blk_alloc ?_ _)); exact BK206.out) hb); have n3_ := Aside0.mk (below_step (by repeat (first | (with_reducible first | exact HB.out | apply below_alloc | apply pw_below_drewN | apply below_drew1 | refine below_set ?_ GE202.out | refine below_set ?_ GE206.out) | exact HB.out)) hb); clear HO_207004; clear BK202; clear BK206; clear HB; have HO_207004 := n0_; have BK202 := n1_; have BK206 := n2_; have HB := n3_; clear n0_ n1_ n2_ n3_; (try clear hb); (try clear hb2); (try clear hk); (try clear hi)) | ((with_reducible refine gate_dst (N := 5) rfl ?_); refine box_event ?hg (N := 5) ?hd (cs := #[.int .u32 0, .int .u32 0, .int .i64 0]) (t := 30) ?hr ?_; (case hd => rfl); (case hg => rfl); (case hr => first | (go_simp; done) | (go_simp; rfl)); intro gb217 hg w31 hbox hb; have n0_ := Aside0.mk (Kd.R_below (by (with_reducible repeat (first | apply Kd.R_alloc | apply Kd.R_drewN | apply Kd.R_drew)); exact HO_207004.out) hb); have n1_ := Aside0.mk (blk_below (g := gb202) (o := .cells #[.int .u32 0, .int .u32 0, .int .i64 0, .slice none 0 0, .slice none 0 0] 33 (0, 0)) (by (with_reducible repeat (first | refine blk_drewN ?_ _ | refine blk_drew ?_ | refine blk_alloc ?_ _)); exact BK202.out) hb); have n2_ := Aside0.mk (blk_below (g := gb206) (o := .cells #[.int .u32 t203, .int .u32 t204, .int .i64 t205, .slice none 0 0, u207004] 33 (0, 0)) (by (with_reducible repeat (first | refine blk_drewN ?_ _ | refine blk_drew ?_ | refine blk_alloc ?_ _)); exact BK206.out) hb); have n3_ := Aside0.mk (below_step (by repeat (first | (with_reducible first | exact HB.out | apply below_alloc | apply pw_below_drewN | apply below_drew1 | refine below_set ?_ GE202.out | refine below_set ?_ GE206.out) | exact HB.out)) hb); have n4_ := Aside0.mk (hbox); have n5_ := Aside0.mk ((by rw [hg]; exact (below_size (by repeat (first | (with_reducible first | exact HB.out | apply below_alloc | apply pw_below_drewN | apply below_drew1 | refine below_set ?_ GE202.out | refine below_set ?_ GE206.out) | exact HB.out))) : w.heap.size ≤ gb217)); have n6_ := Aside0.mk ((by rw [hg]; exact (below_size (by repeat (first | (with_reducible first | exact HB.out | apply below_alloc | apply pw_below_drewN | apply below_drew1 | refine below_set ?_ GE202.out | refine below_set ?_ GE206.out) | exact HB.out))) : w.heap.size ≤ gb217)); have n7_ := Aside0.mk ((by rw [hg]; exact Nat.ne_of_lt (blk_lt (g := gb202) (o := .cells #[.int .u32 0, .int .u32 0, .int .i64 0, .slice none 0 0, .slice none 0 0] 33 (0, 0)) (by (with_reducible repeat (first | refine blk_drewN ?_ _ | refine blk_drew ?_ | refine blk_alloc ?_ _)); exact BK202.out)) : gb202 ≠ gb217)); have n8_ := Aside0.mk ((by rw [hg]; exact Nat.ne_of_gt (blk_lt (g := gb202) (o := .cells #[.int .u32 0, .int .u32 0, .int .i64 0, .slice none 0 0, .slice none 0 0] 33 (0, 0)) (by (with_reducible repeat (first | refine blk_drewN ?_ _ | refine blk_drew ?_ | refine blk_alloc ?_ _)); exact BK202.out)) : gb217 ≠ gb202)); have n9_ := Aside0.mk ((by rw [hg]; exact Nat.ne_of_lt (blk_lt (g := gb206) (o := .cells #[.int .u32 t203, .int .u32 t204, .int .i64 t205, .slice none 0 0, u207004] 33 (0, 0)) (by (with_reducible repeat (first | refine blk_drewN ?_ _ | refine blk_drew ?_ | refine blk_alloc ?_ _)); exact BK206.out)) : gb206 ≠ gb217)); have n10_ := Aside0.mk ((by rw [hg]; exact Nat.ne_of_gt (blk_lt (g := gb206) (o := .cells #[.int .u32 t203, .int .u32 t204, .int .i64 t205, .slice none 0 0, u207004] 33 (0, 0)) (by (with_reducible repeat (first | refine blk_drewN ?_ _ | refine blk_drew ?_ | refine blk_alloc ?_ _)); exact BK206.out)) : gb217 ≠ gb206)); clear HO_207004; clear BK202; clear BK206; clear HB; have HO_207004 := n0_; have BK202 := n1_; have BK206 := n2_; have HB := n3_; have BK217 := n4_; have GW217 := n5_; have GE217 := n6_; have NB202_217 := n7_; have NB217_202 := n8_; have NB206_217 := n9_; have NB217_206 := n10_; clear n0_ n1_ n2_ n3_ n4_ n5_ n6_ n7_ n8_ n9_ n10_; clear hb hbox hg; have hnb32 := NB217_202.out; have hnc32 := NB202_217.out; have hnb33 := NB217_206.out; have hnc33 := NB206_217.out; have hcz34_0 : w31.cell? ⟨gb217, 0, none⟩ = some (.int .u32 0) := (blk_cell BK217.out 0).trans rfl; have hcz34_1 : w31.cell? ⟨gb217, 1, none⟩ = some (.int .u32 0) := (blk_cell BK217.out 1).trans rfl; have hcz34_2 : w31.cell? ⟨gb217, 2, none⟩ = some (.int .i64 0) := (blk_cell BK217.out 2).trans rfl; have hfz34_0 := blk_frozen BK217.out 0; have hfz34_1 := blk_frozen BK217.out 1; have hfz34_2 := blk_frozen BK217.out 2))
                go_loopg [7, 8] k2 (fun kq v7 v8 w' => ∃ (x7_3 : List (S26)) (x8_3 : Int), v8 = .int .i64 x8_3 ∧ Aside0 (sphragisref09_tree.l1 kq l0 x4_2 x7_3 x8_3 t203 t204 t205 x207004_2 t213 t214 t215 = some (r1, r2, r3, r4, r5)) ∧ Aside0 (kq ≤ k2) ∧ Aside0 (Kd.R k26 26 w' w.heap.size (fun _ => True) v7 x7_3) ∧ Aside0 (Kd.R k33 33 w' w.heap.size (fun k_ => some k_ ≠ (v7 : Value).ownBlock ∧ k_ ≠ gb202 ∧ k_ ≠ gb206) u207004 x207004_2) ∧ Aside0 (w'.heap[gb202]? = some (.cells #[.int .u32 0, .int .u32 0, .int .i64 0, (.slice none 0 0), (.slice none 0 0)] 33 (0, 0))) ∧ Aside0 (w'.heap[gb206]? = some (.cells #[.int .u32 t203, .int .u32 t204, .int .i64 t205, (.slice none 0 0), u207004] 33 (0, 0))) ∧ Aside0 (w'.heap[gb217]? = some (.cells #[.int .u32 t213, .int .u32 t214, .int .i64 t215] 30 (0, 0))) ∧ Aside0 (Below w.heap.size w w'))
                case atStart => exact ⟨(([] : List (S26))), (0), (by first | rfl | (simp; done) | (simp [*]; done)), H', ⟨Nat.le_refl _⟩, ⟨by first | exact Kd.R_nil _ _ _ _ _ | exact Kd.N_nil _ _ _ _ _ | exact Kd.V_nil _ _ _ _ _ | exact Kd.Q_nil _ _ _ _ _ | exact Kd.S_nil _ _ _ _ _⟩, ⟨by (with_reducible repeat (first | apply Kd.R_alloc | apply Kd.R_drewN | apply Kd.R_drew)); exact Kd.R_mono (Kd.R_far (p := ⟨gb217, 2, none⟩) (Kd.R_far (p := ⟨gb217, 1, none⟩) (Kd.R_far (p := ⟨gb217, 0, none⟩) (Kd.R_types HO_207004.out BK217.out (by decide)) (fun _ hk => hk.2) (.int .u32 t213)) (fun _ hk => hk.2) (.int .u32 t214)) (fun _ hk => hk.2) (.int .i64 t215)) (fun _ hk => ⟨(by simp [Value.ownBlock]), ⟨hk.1.1, hk.1.2⟩⟩)⟩, ⟨by (with_reducible repeat (first | refine blk_drewN ?_ _ | refine blk_drew ?_ | refine blk_alloc ?_ _)); refine blk_far ?_ NB202_217.out _; (with_reducible repeat (first | refine blk_drewN ?_ _ | refine blk_drew ?_ | refine blk_alloc ?_ _)); refine blk_far ?_ NB202_217.out _; (with_reducible repeat (first | refine blk_drewN ?_ _ | refine blk_drew ?_ | refine blk_alloc ?_ _)); refine blk_far ?_ NB202_217.out _; (with_reducible repeat (first | refine blk_drewN ?_ _ | refine blk_drew ?_ | refine blk_alloc ?_ _)); exact BK202.out⟩, ⟨by (with_reducible repeat (first | refine blk_drewN ?_ _ | refine blk_drew ?_ | refine blk_alloc ?_ _)); refine blk_far ?_ NB206_217.out _; (with_reducible repeat (first | refine blk_drewN ?_ _ | refine blk_drew ?_ | refine blk_alloc ?_ _)); refine blk_far ?_ NB206_217.out _; (with_reducible repeat (first | refine blk_drewN ?_ _ | refine blk_drew ?_ | refine blk_alloc ?_ _)); refine blk_far ?_ NB206_217.out _; (with_reducible repeat (first | refine blk_drewN ?_ _ | refine blk_drew ?_ | refine blk_alloc ?_ _)); exact BK206.out⟩, ⟨by (with_reducible repeat (first | refine blk_drewN ?_ _ | refine blk_drew ?_ | refine blk_alloc ?_ _)); refine blk_put (cs := #[.int .u32 t213, .int .u32 t214, .int .i64 0]) ?_ 2 _ (by first | rfl | (simp; done)); (with_reducible repeat (first | refine blk_drewN ?_ _ | refine blk_drew ?_ | refine blk_alloc ?_ _)); refine blk_put (cs := #[.int .u32 t213, .int .u32 0, .int .i64 0]) ?_ 1 _ (by first | rfl | (simp; done)); (with_reducible repeat (first | refine blk_drewN ?_ _ | refine blk_drew ?_ | refine blk_alloc ?_ _)); refine blk_put (cs := #[.int .u32 0, .int .u32 0, .int .i64 0]) ?_ 0 _ (by first | rfl | (simp; done)); (with_reducible repeat (first | refine blk_drewN ?_ _ | refine blk_drew ?_ | refine blk_alloc ?_ _)); exact BK217.out⟩, ⟨by repeat (first | (with_reducible first | exact HB.out | apply below_alloc | apply pw_below_drewN | apply below_drew1 | refine below_set ?_ GE202.out | refine below_set ?_ GE206.out | refine below_set ?_ GE217.out) | exact HB.out)⟩⟩
                case round =>
                  clear H'
                  try clear c1
                  try clear c2
                  try clear c2b0
                  try clear c2b1
                  try clear c2b2
                  try clear p2
                  try clear c3
                  try clear c5
                  try clear c6
                  try clear c10
                  try clear c12
                  try clear c12b0
                  try clear c12b1
                  try clear c13
                  try clear c15
                  try clear c16
                  try clear c16b0
                  try clear c16b1
                  try clear c17
                  try clear c17b0
                  try clear c17b1
                  try clear c18
                  try clear c23
                  try clear c26
                  try clear c26b0
                  try clear c28
                  try clear c32
                  try clear c33
                  try clear c34
                  try clear hcz11_0
                  try clear hcz11_1
                  try clear hcz11_2
                  try clear hcz11_3
                  try clear hcz11_4
                  try clear hcz14_0
                  try clear hcz14_1
                  try clear hcz14_2
                  try clear hcz14_3
                  try clear hcz14_4
                  try clear hcz24_0
                  try clear hcz24_1
                  try clear hcz24_2
                  try clear hcz24_3
                  try clear hcz24_4
                  try clear hcz25_0
                  try clear hcz25_1
                  try clear hcz25_2
                  try clear hcz25_3
                  try clear hcz25_4
                  try clear hcz29_0
                  try clear hcz29_1
                  try clear hcz29_2
                  try clear hcz29_3
                  try clear hcz29_4
                  try clear hcz34_0
                  try clear hcz34_1
                  try clear hcz34_2
                  try clear hcz4_0
                  try clear hcz4_1
                  try clear hcz4_2
                  try clear hcz4_3
                  try clear hcz4_4
                  try clear hfz11_0
                  try clear hfz11_1
                  try clear hfz11_2
                  try clear hfz11_3
                  try clear hfz11_4
                  try clear hfz14_0
                  try clear hfz14_1
                  try clear hfz14_2
                  try clear hfz14_3
                  try clear hfz14_4
                  try clear hfz24_0
                  try clear hfz24_1
                  try clear hfz24_2
                  try clear hfz24_3
                  try clear hfz24_4
                  try clear hfz25_0
                  try clear hfz25_1
                  try clear hfz25_2
                  try clear hfz25_3
                  try clear hfz25_4
                  try clear hfz29_0
                  try clear hfz29_1
                  try clear hfz29_2
                  try clear hfz29_3
                  try clear hfz29_4
                  try clear hfz34_0
                  try clear hfz34_1
                  try clear hfz34_2
                  try clear hfz4_0
                  try clear hfz4_1
                  try clear hfz4_2
                  try clear hfz4_3
                  try clear hfz4_4
                  try clear p2
                  obtain ⟨x7_3, x8_3, rfl, HA, HK3, HO_7, HO_207004, BK202, BK206, BK217, HB⟩ := hrel
                  cases gk with
                  | zero => exact absurd HA.out (by simp [sphragisref09_tree.l1])
                  | succ k3 =>
                    have H := HA.out
                    clear HA
                    simp only [sphragisref09_tree.l1] at H
                    by_cases c35 : x8_3 < (l0.length : Int)
                    · rw [if_pos c35] at H
                      have c35b0 : decide (x8_3 < (l0.length : Int)) = true := decide_eq_true c35
                      clear c35
                      by_cases c36 : 0 ≤ x8_3
                      · rw [if_pos c36] at H
                        have c36b0 : decide (0 ≤ x8_3) = true := decide_eq_true c36
                        clear c36
                        replace H := Option.bind_eq_some_iff.mp H
                        obtain ⟨t220, A370, H⟩ := H
                        replace H : (if t220 = true then (if x7_3.length < 4398046511104 then (sphragisref09_tree.l1 k3 l0 x4_2 (x7_3 ++ [(⟨(rd_T26 l0 x8_3).f0, (rd_T26 l0 x8_3).f1, (rd_T26 l0 x8_3).f2, (rd_T26 l0 x8_3).f3⟩ : S26)]) (wrap64 (x8_3 + 1)) t203 t204 t205 x207004_2 t213 t214 t215) else (none)) else (sphragisref09_tree.l1 k3 l0 x4_2 x7_3 (wrap64 (x8_3 + 1)) t203 t204 t205 x207004_2 t213 t214 t215)) = some (r1, r2, r3, r4, r5) := H
                        have A37 := Aside0.mk A370
                        clear A370
                        by_cases c38 : t220 = true
                        · subst c38
                          have H1 : (if x7_3.length < 4398046511104 then (sphragisref09_tree.l1 k3 l0 x4_2 (x7_3 ++ [(⟨(rd_T26 l0 x8_3).f0, (rd_T26 l0 x8_3).f1, (rd_T26 l0 x8_3).f2, (rd_T26 l0 x8_3).f3⟩ : S26)]) (wrap64 (x8_3 + 1)) t203 t204 t205 x207004_2 t213 t214 t215) else (none)) = some (r1, r2, r3, r4, r5) := by rw [if_pos rfl] at H; exact H
                          clear H
                          have H := H1
                          clear H1
                          by_cases c39 : x7_3.length < 4398046511104
                          · rw [if_pos c39] at H
                            have LMc39 := Aside0.mk c39
                            clear c39
                            obtain ⟨y222, hy222⟩ : ∃ y_ : List (S26), y_ = (x7_3 ++ [(⟨(rd_T26 l0 x8_3).f0, (rd_T26 l0 x8_3).f1, (rd_T26 l0 x8_3).f2, (rd_T26 l0 x8_3).f3⟩ : S26)]) := ⟨_, rfl⟩
                            replace H : (sphragisref09_tree.l1 k3 l0 x4_2 y222 (wrap64 (x8_3 + 1)) t203 t204 t205 x207004_2 t213 t214 t215) = some (r1, r2, r3, r4, r5) := by first | (rw [hy222]; with_reducible exact H) | (have H2_ := (Option.bind_some _ _).symm.trans H; rw [hy222]; with_reducible exact H2_) | (have H2_ := (Option.bind_some _ _).symm.trans H; with_reducible exact H2_) | with_reducible exact H | (rw [hy222]; exact H) | exact H
                            have Ny222 := Aside0.mk hy222
                            clear hy222
                            have H' := Aside0.mk H
                            clear H
                            try go_wp2
                            have n0_ := Aside0.mk (Kd.R_drew HO_7.out)
                            have n1_ := Aside0.mk (Kd.R_drew HO_207004.out)
                            have n2_ := Aside0.mk (blk_drew BK202.out)
                            have n3_ := Aside0.mk (blk_drew BK206.out)
                            have n4_ := Aside0.mk (blk_drew BK217.out)
                            have n5_ := Aside0.mk (below_drew1 HB.out)
                            clear HO_7
                            clear HO_207004
                            clear BK202
                            clear BK206
                            clear BK217
                            clear HB
                            have HO_7 := n0_
                            have HO_207004 := n1_
                            have BK202 := n2_
                            have BK206 := n3_
                            have BK217 := n4_
                            have HB := n5_
                            clear n0_ n1_ n2_ n3_ n4_ n5_
                            have p218 : 0 ≤ (x8_3 : Int) := of_decide_eq_true (by first | (with_reducible assumption) | assumption)
                            have q218 : x8_3 < (l0.length : Int) := of_decide_eq_true (by first | (with_reducible assumption) | assumption)
                            obtain ⟨ad218, e218, hx218_0, hx218_1, hx218_2, hx218_3⟩ := at_T26 HR0.out x8_3 p218 q218
                            have hw218_3 := hx218_3
                            have hw218_2 := hx218_2
                            have hw218_1 := hx218_1
                            have hw218_0 := hx218_0
                            cases e218
                            replace hx218_0 := (HB.out.cell (World.block_lt_of_cell? w _ hx218_0)).trans hx218_0
                            replace hx218_1 := (HB.out.cell (World.block_lt_of_cell? w _ hx218_1)).trans hx218_1
                            replace hx218_2 := (HB.out.cell (World.block_lt_of_cell? w _ hx218_2)).trans hx218_2
                            replace hx218_3 := (HB.out.cell (World.block_lt_of_cell? w _ hx218_3)).trans hx218_3
                            replace p218 := eq_true p218
                            replace q218 := eq_true q218
                            have p219 : 0 ≤ (x8_3 : Int) := of_decide_eq_true (by first | (with_reducible assumption) | assumption)
                            have q219 : x8_3 < (l0.length : Int) := of_decide_eq_true (by first | (with_reducible assumption) | assumption)
                            obtain ⟨ad219, e219, hx219_0, hx219_1, hx219_2, hx219_3⟩ := at_T26 HR0.out x8_3 p219 q219
                            have hw219_3 := hx219_3
                            have hw219_2 := hx219_2
                            have hw219_1 := hx219_1
                            have hw219_0 := hx219_0
                            obtain rfl : ad218 = ad219 := (by injection e219)
                            replace hx219_0 := (HB.out.cell (World.block_lt_of_cell? w _ hx219_0)).trans hx219_0
                            replace hx219_1 := (HB.out.cell (World.block_lt_of_cell? w _ hx219_1)).trans hx219_1
                            replace hx219_2 := (HB.out.cell (World.block_lt_of_cell? w _ hx219_2)).trans hx219_2
                            replace hx219_3 := (HB.out.cell (World.block_lt_of_cell? w _ hx219_3)).trans hx219_3
                            replace p219 := eq_true p219
                            replace q219 := eq_true q219
                            refine start_ (n := 13) (S := fun w' => w'.cell? ⟨gb217, 0, none⟩ = some (.int .u32 t213) ∧ w'.cell? ⟨gb217, 1, none⟩ = some (.int .u32 t214) ∧ w'.cell? ⟨gb217, 2, none⟩ = some (.int .i64 t215) ∧ w'.cell? (ad218.add ((x8_3).toNat * 4)) = some (.int .u64 ((rd_T26 l0 x8_3).f0)) ∧ w'.cell? ⟨(ad218.add ((x8_3).toNat * 4)).block, (ad218.add ((x8_3).toNat * 4)).off + 1, none⟩ = some (.int .u32 ((rd_T26 l0 x8_3).f1)) ∧ w'.cell? ⟨(ad218.add ((x8_3).toNat * 4)).block, (ad218.add ((x8_3).toNat * 4)).off + 2, none⟩ = some (.int .u32 ((rd_T26 l0 x8_3).f2)) ∧ w'.cell? ⟨(ad218.add ((x8_3).toNat * 4)).block, (ad218.add ((x8_3).toNat * 4)).off + 3, none⟩ = some (.string ((rd_T26 l0 x8_3).f3)) ∧ w'.cell? (ad218.add ((x8_3).toNat * 4)) = some (.int .u64 ((rd_T26 l0 x8_3).f0)) ∧ w'.cell? ⟨(ad218.add ((x8_3).toNat * 4)).block, (ad218.add ((x8_3).toNat * 4)).off + 1, none⟩ = some (.int .u32 ((rd_T26 l0 x8_3).f1)) ∧ w'.cell? ⟨(ad218.add ((x8_3).toNat * 4)).block, (ad218.add ((x8_3).toNat * 4)).off + 2, none⟩ = some (.int .u32 ((rd_T26 l0 x8_3).f2)) ∧ w'.cell? ⟨(ad218.add ((x8_3).toNat * 4)).block, (ad218.add ((x8_3).toNat * 4)).off + 3, none⟩ = some (.string ((rd_T26 l0 x8_3).f3))) (ds := []) #[false, false, false, false, false, false, false, false, false, false, false, false, false] (by kernel_rfl) rfl rfl ⟨(blk_cell BK217.out 0).trans rfl, (blk_cell BK217.out 1).trans rfl, (blk_cell BK217.out 2).trans rfl, ((HB.out.cell (World.block_lt_of_cell? w _ hw218_0)).trans hw218_0), ((HB.out.cell (World.block_lt_of_cell? w _ hw218_1)).trans hw218_1), ((HB.out.cell (World.block_lt_of_cell? w _ hw218_2)).trans hw218_2), ((HB.out.cell (World.block_lt_of_cell? w _ hw218_3)).trans hw218_3), ((HB.out.cell (World.block_lt_of_cell? w _ hw219_0)).trans hw219_0), ((HB.out.cell (World.block_lt_of_cell? w _ hw219_1)).trans hw219_1), ((HB.out.cell (World.block_lt_of_cell? w _ hw219_2)).trans hw219_2), ((HB.out.cell (World.block_lt_of_cell? w _ hw219_3)).trans hw219_3)⟩ (fun hHeld => ?_); refine with_tabW sphragisref09_tree.tab15 sphragisref09_tree.bits15 (fun HT_ HW_ => ?_)
                            generalize wr.drew = w40 at HO_7 HO_207004 BK202 BK206 BK217 HB hx218_0 hx218_1 hx218_2 hx218_3 hx219_0 hx219_1 hx219_2 hx219_3 hHeld ⊢
                            refine pure_ (i := 1) (N := some 51) (v := ?_) (a' := ?_) #[false, true, false, false, false, false, false, false, false, false, false, false, false] rfl rfl (any_of HT_.out (by kernel_rfl)) (fun _ _ _ h => h) (Or.inl ⟨by rfl, ?_⟩) ?_ ?_
                            rotate_left
                            · intro w'
                              go_simp
                              with_reducible rfl
                            rotate_left
                            · simp only [Act.put, List.setIfInBounds_toArray, List.set_cons_zero, List.set_cons_succ, i64_w, i32_w]
                              rfl
                            refine pure_ (i := 2) (N := some 52) (v := ?_) (a' := ?_) #[false, true, true, false, false, false, false, false, false, false, false, false, false] rfl rfl (any_of HT_.out (by kernel_rfl)) (fun _ _ _ h => h) (Or.inl ⟨by rfl, ?_⟩) ?_ ?_
                            rotate_left
                            · intro w'
                              go_simp
                              with_reducible rfl
                            rotate_left
                            · simp only [Act.put, List.setIfInBounds_toArray, List.set_cons_zero, List.set_cons_succ, i64_w, i32_w]
                              rfl
                            refine pure_ (i := 3) (N := some 53) (v := ?_) (a' := ?_) #[false, true, true, true, false, false, false, false, false, false, false, false, false] rfl rfl (any_of HT_.out (by kernel_rfl)) (fun _ _ _ h => h) (Or.inl ⟨by rfl, ?_⟩) ?_ ?_
                            rotate_left
                            · intro w'
                              go_simp
                              with_reducible rfl
                            rotate_left
                            · simp only [Act.put, List.setIfInBounds_toArray, List.set_cons_zero, List.set_cons_succ, i64_w, i32_w]
                              rfl
                            refine pure_ (i := 4) (N := some 54) (v := ?_) (a' := ?_) #[false, true, true, true, true, false, false, false, false, false, false, false, false] rfl rfl (any_of HT_.out (by kernel_rfl)) (fun _ _ _ h => h) (Or.inl ⟨by rfl, ?_⟩) ?_ ?_
                            rotate_left
                            · intro w'
                              go_simp
                              with_reducible rfl
                            rotate_left
                            · simp only [Act.put, List.setIfInBounds_toArray, List.set_cons_zero, List.set_cons_succ, i64_w, i32_w]
                              rfl
                            refine pure_ (i := 6) (N := some 56) (v := ?_) (a' := ?_) #[false, true, true, true, true, false, true, false, false, false, false, false, false] rfl rfl (any_of HT_.out (by kernel_rfl)) (fun _ _ _ h => h) (Or.inl ⟨by rfl, ?_⟩) ?_ ?_
                            rotate_left
                            · intro w'
                              go_simp
                              with_reducible rfl
                            rotate_left
                            · simp only [Act.put, List.setIfInBounds_toArray, List.set_cons_zero, List.set_cons_succ, i64_w, i32_w]
                              rfl
                            refine pure_ (i := 7) (N := some 57) (v := ?_) (a' := ?_) #[false, true, true, true, true, false, true, true, false, false, false, false, false] rfl rfl (any_of HT_.out (by kernel_rfl)) (fun _ _ _ h => h) (Or.inl ⟨by rfl, ?_⟩) ?_ ?_
                            rotate_left
                            · intro w'
                              go_simp
                              with_reducible rfl
                            rotate_left
                            · simp only [Act.put, List.setIfInBounds_toArray, List.set_cons_zero, List.set_cons_succ, i64_w, i32_w]
                              rfl
                            refine pure_ (i := 8) (N := some 58) (v := ?_) (a' := ?_) #[false, true, true, true, true, false, true, true, true, false, false, false, false] rfl rfl (any_of HT_.out (by kernel_rfl)) (fun _ _ _ h => h) (Or.inl ⟨by rfl, ?_⟩) ?_ ?_
                            rotate_left
                            · intro w'
                              go_simp
                              with_reducible rfl
                            rotate_left
                            · simp only [Act.put, List.setIfInBounds_toArray, List.set_cons_zero, List.set_cons_succ, i64_w, i32_w]
                              rfl
                            refine pure_ (i := 9) (N := some 59) (v := ?_) (a' := ?_) #[false, true, true, true, true, false, true, true, true, true, false, false, false] rfl rfl (any_of HT_.out (by kernel_rfl)) (fun _ _ _ h => h) (Or.inl ⟨by rfl, ?_⟩) ?_ ?_
                            rotate_left
                            · intro w'
                              go_simp
                              with_reducible rfl
                            rotate_left
                            · simp only [Act.put, List.setIfInBounds_toArray, List.set_cons_zero, List.set_cons_succ, i64_w, i32_w]
                              rfl
                            refine take_ (i := 0) (N := some 50) (v := ?_) (a' := ?_) #[true, true, true, true, true, false, true, true, true, true, false, false, false] rfl rfl (take_ofW HT_.out HW_.out (by kernel_rfl)) (fun _ _ _ h => h) (Or.inl ⟨by rfl, ?_⟩) hHeld ?_ ?_
                            rotate_left
                            · rintro w' ⟨s0, s1, s2, s3, s4, s5, s6, s7, s8, s9, s10⟩
                              go_simp
                              with_reducible rfl
                            rotate_left
                            · simp only [Act.put, List.setIfInBounds_toArray, List.set_cons_zero, List.set_cons_succ, i64_w, i32_w]
                              rfl
                            refine take_ (i := 5) (N := some 55) (v := ?_) (a' := ?_) #[true, true, true, true, true, true, true, true, true, true, false, false, false] rfl rfl (take_ofW HT_.out HW_.out (by kernel_rfl)) (fun _ _ _ h => h) (Or.inl ⟨by rfl, ?_⟩) hHeld ?_ ?_
                            rotate_left
                            · rintro w' ⟨s0, s1, s2, s3, s4, s5, s6, s7, s8, s9, s10⟩
                              go_simp
                              with_reducible rfl
                            rotate_left
                            · simp only [Act.put, List.setIfInBounds_toArray, List.set_cons_zero, List.set_cons_succ, i64_w, i32_w]
                              rfl
                            refine take_ (i := 10) (N := some 60) (v := ?_) (a' := ?_) #[true, true, true, true, true, true, true, true, true, true, true, false, false] rfl rfl (take_ofW HT_.out HW_.out (by kernel_rfl)) (fun _ _ _ h => h) (Or.inl ⟨by rfl, ?_⟩) hHeld ?_ ?_
                            rotate_left
                            · rintro w' ⟨s0, s1, s2, s3, s4, s5, s6, s7, s8, s9, s10⟩
                              go_simp
                              with_reducible rfl
                            rotate_left
                            · simp only [Act.put, List.setIfInBounds_toArray, List.set_cons_zero, List.set_cons_succ, i64_w, i32_w]
                              rfl
                            refine one_ (i := 11) (N := some 61) #[true, true, true, true, true, true, true, true, true, true, true, true, false] rfl rfl (one_of HT_.out (by kernel_rfl)) (by decide) (fun K hK => ?_)
                            refine goes_ Try.func61 (by kernel_rfl) rfl #[.agg #[.int .u32 t213, .int .u32 t214, .int .i64 t215], .int .u32 ((rd_T26 l0 x8_3).f1), .int .u32 ((rd_T26 l0 x8_3).f2)] (by rfl) rfl rfl (by (try simp only [List.map_toArray, List.map_cons, List.map_nil]); first | done | rfl | (simp only [List.length_drop, List.length_take]; rfl)) ?_
                            with_reducible refine (sphragisref08_Has.calls k3 t213 t214 t215 ((rd_T26 l0 x8_3).f1) ((rd_T26 l0 x8_3).f2) true _ A37.out).mono ?_
                            rintro e w41 ⟨rfl, hb⟩
                            refine ⟨_, rfl, ?_⟩
                            have n0_ := Aside0.mk (Kd.R_below (by (with_reducible repeat (first | apply Kd.R_alloc | apply Kd.R_drewN | apply Kd.R_drew)); exact HO_7.out) hb)
                            have n1_ := Aside0.mk (Kd.R_below (by (with_reducible repeat (first | apply Kd.R_alloc | apply Kd.R_drewN | apply Kd.R_drew)); exact HO_207004.out) hb)
                            have n2_ := Aside0.mk (blk_below (g := gb202) (o := .cells #[.int .u32 0, .int .u32 0, .int .i64 0, .slice none 0 0, .slice none 0 0] 33 (0, 0)) (by (with_reducible repeat (first | refine blk_drewN ?_ _ | refine blk_drew ?_ | refine blk_alloc ?_ _)); exact BK202.out) hb)
                            have n3_ := Aside0.mk (blk_below (g := gb206) (o := .cells #[.int .u32 t203, .int .u32 t204, .int .i64 t205, .slice none 0 0, u207004] 33 (0, 0)) (by (with_reducible repeat (first | refine blk_drewN ?_ _ | refine blk_drew ?_ | refine blk_alloc ?_ _)); exact BK206.out) hb)
                            have n4_ := Aside0.mk (blk_below (g := gb217) (o := .cells #[.int .u32 t213, .int .u32 t214, .int .i64 t215] 30 (0, 0)) (by (with_reducible repeat (first | refine blk_drewN ?_ _ | refine blk_drew ?_ | refine blk_alloc ?_ _)); exact BK217.out) hb)
                            have n5_ := Aside0.mk (below_step (by repeat (first | (with_reducible first | exact HB.out | apply below_alloc | apply pw_below_drewN | apply below_drew1 | refine below_set ?_ GE202.out | refine below_set ?_ GE206.out | refine below_set ?_ GE217.out) | exact HB.out)) hb)
                            clear HO_7
                            clear HO_207004
                            clear BK202
                            clear BK206
                            clear BK217
                            clear HB
                            have HO_7 := n0_
                            have HO_207004 := n1_
                            have BK202 := n2_
                            have BK206 := n3_
                            have BK217 := n4_
                            have HB := n5_
                            clear n0_ n1_ n2_ n3_ n4_ n5_
                            (try clear hb)
                            (try clear hb2)
                            (try clear hk)
                            (try clear hi)
                            refine hK.out _ _ ⟨(blk_cell BK217.out 0).trans rfl, (blk_cell BK217.out 1).trans rfl, (blk_cell BK217.out 2).trans rfl, ((HB.out.cell (World.block_lt_of_cell? w _ hw218_0)).trans hw218_0), ((HB.out.cell (World.block_lt_of_cell? w _ hw218_1)).trans hw218_1), ((HB.out.cell (World.block_lt_of_cell? w _ hw218_2)).trans hw218_2), ((HB.out.cell (World.block_lt_of_cell? w _ hw218_3)).trans hw218_3), ((HB.out.cell (World.block_lt_of_cell? w _ hw219_0)).trans hw219_0), ((HB.out.cell (World.block_lt_of_cell? w _ hw219_1)).trans hw219_1), ((HB.out.cell (World.block_lt_of_cell? w _ hw219_2)).trans hw219_2), ((HB.out.cell (World.block_lt_of_cell? w _ hw219_3)).trans hw219_3)⟩ (fun hHeld => ?_)
                            clear hK K
                            refine norm_ (a' := ?_) ?_ ?_
                            rotate_left
                            · show Act.put _ (some 61) _ = _
                              simp only [Act.put, List.setIfInBounds_toArray, List.set_cons_zero, List.set_cons_succ, i64_w, i32_w]
                              rfl
                            refine pure_ (i := 12) (N := some 9) (v := ?_) (a' := ?_) #[true, true, true, true, true, true, true, true, true, true, true, true, true] rfl rfl (any_of HT_.out (by kernel_rfl)) (fun _ _ _ h => h) (Or.inl ⟨by rfl, ?_⟩) ?_ ?_
                            rotate_left
                            · intro w'
                              go_simp
                              with_reducible rfl
                            rotate_left
                            · simp only [Act.put, List.setIfInBounds_toArray, List.set_cons_zero, List.set_cons_succ, i64_w, i32_w]
                              rfl
                            refine done_ (done_of HT_.out (by kernel_rfl)) ?_
                            have p221 : 0 ≤ (x8_3 : Int) := of_decide_eq_true (by first | (with_reducible assumption) | assumption)
                            have q221 : x8_3 < (l0.length : Int) := of_decide_eq_true (by first | (with_reducible assumption) | assumption)
                            obtain ⟨ad221, e221, hx221_0, hx221_1, hx221_2, hx221_3⟩ := at_T26 HR0.out x8_3 p221 q221
                            obtain rfl : ad218 = ad221 := (by injection e221)
                            replace hx221_0 := (HB.out.cell (World.block_lt_of_cell? w _ hx221_0)).trans hx221_0
                            replace hx221_1 := (HB.out.cell (World.block_lt_of_cell? w _ hx221_1)).trans hx221_1
                            replace hx221_2 := (HB.out.cell (World.block_lt_of_cell? w _ hx221_2)).trans hx221_2
                            replace hx221_3 := (HB.out.cell (World.block_lt_of_cell? w _ hx221_3)).trans hx221_3
                            replace p221 := eq_true p221
                            replace q221 := eq_true q221
                            try go_wp2_with (first | ((with_reducible refine gate_builtin (b := .append) (xs := #[.tmp 63, .tmp 68]) rfl ?_); at_builtin; refine Kd.R_append k26 (w0 := w) w.heap.size rfl (.tmp 63) (.tmp 68) 22 26 (.agg #[(.int .u64 0), (.int .u32 0), (.int .u32 0), (.string ⟨#[]⟩)]) 32 rfl Try.underlying22 info26 rfl (by decide) (by omega) u7 x7_3 (⟨(rd_T26 l0 x8_3).f0, (rd_T26 l0 x8_3).f1, (rd_T26 l0 x8_3).f2, (rd_T26 l0 x8_3).f3⟩ : S26) [.int .u64 ((rd_T26 l0 x8_3).f0), .int .u32 ((rd_T26 l0 x8_3).f1), .int .u32 ((rd_T26 l0 x8_3).f2), .string ((rd_T26 l0 x8_3).f3)] (fun _ => True) (fun _ => False) rfl rfl ?aP (fun _ hk => hk.elim) ?aF ?aO ?aB ?aS ?aL ?_; (case aP => exact k26_mkM _ _ _ (⟨(rd_T26 l0 x8_3).f0, (rd_T26 l0 x8_3).f1, (rd_T26 l0 x8_3).f2, (rd_T26 l0 x8_3).f3⟩ : S26)); (case aB => exact (by repeat (first | (with_reducible first | exact HB.out | apply below_alloc | apply pw_below_drewN | apply below_drew1 | refine below_set ?_ GE202.out | refine below_set ?_ GE206.out | refine below_set ?_ GE217.out) | exact HB.out))); (case aF => exact (fun _ _ => trivial)); (case aO => exact (by (with_reducible repeat (first | apply Kd.R_alloc | apply Kd.R_drewN | apply Kd.R_drew)); exact HO_7.out)); (case aS => exact (below_size (by repeat (first | (with_reducible first | exact HB.out | apply below_alloc | apply pw_below_drewN | apply below_drew1 | refine below_set ?_ GE202.out | refine below_set ?_ GE206.out | refine below_set ?_ GE217.out) | exact HB.out)))); (case aL => have := LMc39.out; omega); intro v223 w42 ho hb hg hat; rw [← Ny222.out] at ho; have n0_ := Aside0.mk (Kd.R_after (ok := (fun k_ => k_ ≠ gb202 ∧ k_ ≠ gb206)) (by (with_reducible repeat (first | apply Kd.R_alloc | apply Kd.R_drewN | apply Kd.R_drew)); exact Kd.R_mono HO_207004.out (fun _ hk => ⟨⟨hk.2.1, hk.2.2⟩, hk.1⟩)) hg hat); have n1_ := Aside0.mk (blk_grown (g := gb202) (o := .cells #[.int .u32 0, .int .u32 0, .int .i64 0, .slice none 0 0, .slice none 0 0] 33 (0, 0)) (by (with_reducible repeat (first | refine blk_drewN ?_ _ | refine blk_drew ?_ | refine blk_alloc ?_ _)); exact BK202.out) hg (Kd.R_ne HO_7.out BK202.out (by decide))); have n2_ := Aside0.mk (blk_grown (g := gb206) (o := .cells #[.int .u32 t203, .int .u32 t204, .int .i64 t205, .slice none 0 0, u207004] 33 (0, 0)) (by (with_reducible repeat (first | refine blk_drewN ?_ _ | refine blk_drew ?_ | refine blk_alloc ?_ _)); exact BK206.out) hg (Kd.R_ne HO_7.out BK206.out (by decide))); have n3_ := Aside0.mk (blk_grown (g := gb217) (o := .cells #[.int .u32 t213, .int .u32 t214, .int .i64 t215] 30 (0, 0)) (by (with_reducible repeat (first | refine blk_drewN ?_ _ | refine blk_drew ?_ | refine blk_alloc ?_ _)); exact BK217.out) hg (Kd.R_ne HO_7.out BK217.out (by decide))); have n4_ := Aside0.mk (hb); have n5_ := Aside0.mk (ho); clear HO_207004; clear BK202; clear BK206; clear BK217; clear HB; clear HO_7; have HO_207004 := n0_; have BK202 := n1_; have BK206 := n2_; have BK217 := n3_; have HB := n4_; have HO224 := n5_; clear n0_ n1_ n2_ n3_ n4_ n5_; clear ho hb hg hat))
                            go_roundg k3
                            case measure => have := HJ5.out; have := HK2.out; have := HK3.out; omega
                            case rel => exact ⟨(y222), (wrap64 (x8_3 + 1)), (by first | rfl | (simp; done) | (simp [*]; done)), H', ⟨by have := HJ5.out; have := HK2.out; have := HK3.out; omega⟩, ⟨by (with_reducible repeat (first | apply Kd.R_alloc | apply Kd.R_drewN | apply Kd.R_drew)); exact HO224.out⟩, ⟨by (with_reducible repeat (first | apply Kd.R_alloc | apply Kd.R_drewN | apply Kd.R_drew)); exact Kd.R_mono HO_207004.out (fun _ hk => ⟨hk.2, ⟨hk.1.1, hk.1.2⟩⟩)⟩, ⟨by (with_reducible repeat (first | refine blk_drewN ?_ _ | refine blk_drew ?_ | refine blk_alloc ?_ _)); exact BK202.out⟩, ⟨by (with_reducible repeat (first | refine blk_drewN ?_ _ | refine blk_drew ?_ | refine blk_alloc ?_ _)); exact BK206.out⟩, ⟨by (with_reducible repeat (first | refine blk_drewN ?_ _ | refine blk_drew ?_ | refine blk_alloc ?_ _)); exact BK217.out⟩, ⟨by repeat (first | (with_reducible first | exact HB.out | apply below_alloc | apply pw_below_drewN | apply below_drew1 | refine below_set ?_ GE202.out | refine below_set ?_ GE206.out | refine below_set ?_ GE217.out) | exact HB.out)⟩⟩
                          · rw [if_neg c39] at H
                            exact absurd H (by simp)
                        · replace c38 := Bool.eq_false_iff.mpr c38
                          subst c38
                          have H1 : (sphragisref09_tree.l1 k3 l0 x4_2 x7_3 (wrap64 (x8_3 + 1)) t203 t204 t205 x207004_2 t213 t214 t215) = some (r1, r2, r3, r4, r5) := by rw [if_neg (show ¬ (false = true) by decide)] at H; exact H
                          clear H
                          have H := H1
                          clear H1
                          have H' := Aside0.mk H
                          clear H
                          try go_wp2
                          have n0_ := Aside0.mk (Kd.R_drew HO_7.out)
                          have n1_ := Aside0.mk (Kd.R_drew HO_207004.out)
                          have n2_ := Aside0.mk (blk_drew BK202.out)
                          have n3_ := Aside0.mk (blk_drew BK206.out)
                          have n4_ := Aside0.mk (blk_drew BK217.out)
                          have n5_ := Aside0.mk (below_drew1 HB.out)
                          clear HO_7
                          clear HO_207004
                          clear BK202
                          clear BK206
                          clear BK217
                          clear HB
                          have HO_7 := n0_
                          have HO_207004 := n1_
                          have BK202 := n2_
                          have BK206 := n3_
                          have BK217 := n4_
                          have HB := n5_
                          clear n0_ n1_ n2_ n3_ n4_ n5_
                          have p218 : 0 ≤ (x8_3 : Int) := of_decide_eq_true (by first | (with_reducible assumption) | assumption)
                          have q218 : x8_3 < (l0.length : Int) := of_decide_eq_true (by first | (with_reducible assumption) | assumption)
                          obtain ⟨ad218, e218, hx218_0, hx218_1, hx218_2, hx218_3⟩ := at_T26 HR0.out x8_3 p218 q218
                          have hw218_3 := hx218_3
                          have hw218_2 := hx218_2
                          have hw218_1 := hx218_1
                          have hw218_0 := hx218_0
                          cases e218
                          replace hx218_0 := (HB.out.cell (World.block_lt_of_cell? w _ hx218_0)).trans hx218_0
                          replace hx218_1 := (HB.out.cell (World.block_lt_of_cell? w _ hx218_1)).trans hx218_1
                          replace hx218_2 := (HB.out.cell (World.block_lt_of_cell? w _ hx218_2)).trans hx218_2
                          replace hx218_3 := (HB.out.cell (World.block_lt_of_cell? w _ hx218_3)).trans hx218_3
                          replace p218 := eq_true p218
                          replace q218 := eq_true q218
                          have p219 : 0 ≤ (x8_3 : Int) := of_decide_eq_true (by first | (with_reducible assumption) | assumption)
                          have q219 : x8_3 < (l0.length : Int) := of_decide_eq_true (by first | (with_reducible assumption) | assumption)
                          obtain ⟨ad219, e219, hx219_0, hx219_1, hx219_2, hx219_3⟩ := at_T26 HR0.out x8_3 p219 q219
                          have hw219_3 := hx219_3
                          have hw219_2 := hx219_2
                          have hw219_1 := hx219_1
                          have hw219_0 := hx219_0
                          obtain rfl : ad218 = ad219 := (by injection e219)
                          replace hx219_0 := (HB.out.cell (World.block_lt_of_cell? w _ hx219_0)).trans hx219_0
                          replace hx219_1 := (HB.out.cell (World.block_lt_of_cell? w _ hx219_1)).trans hx219_1
                          replace hx219_2 := (HB.out.cell (World.block_lt_of_cell? w _ hx219_2)).trans hx219_2
                          replace hx219_3 := (HB.out.cell (World.block_lt_of_cell? w _ hx219_3)).trans hx219_3
                          replace p219 := eq_true p219
                          replace q219 := eq_true q219
                          refine start_ (n := 13) (S := fun w' => w'.cell? ⟨gb217, 0, none⟩ = some (.int .u32 t213) ∧ w'.cell? ⟨gb217, 1, none⟩ = some (.int .u32 t214) ∧ w'.cell? ⟨gb217, 2, none⟩ = some (.int .i64 t215) ∧ w'.cell? (ad218.add ((x8_3).toNat * 4)) = some (.int .u64 ((rd_T26 l0 x8_3).f0)) ∧ w'.cell? ⟨(ad218.add ((x8_3).toNat * 4)).block, (ad218.add ((x8_3).toNat * 4)).off + 1, none⟩ = some (.int .u32 ((rd_T26 l0 x8_3).f1)) ∧ w'.cell? ⟨(ad218.add ((x8_3).toNat * 4)).block, (ad218.add ((x8_3).toNat * 4)).off + 2, none⟩ = some (.int .u32 ((rd_T26 l0 x8_3).f2)) ∧ w'.cell? ⟨(ad218.add ((x8_3).toNat * 4)).block, (ad218.add ((x8_3).toNat * 4)).off + 3, none⟩ = some (.string ((rd_T26 l0 x8_3).f3)) ∧ w'.cell? (ad218.add ((x8_3).toNat * 4)) = some (.int .u64 ((rd_T26 l0 x8_3).f0)) ∧ w'.cell? ⟨(ad218.add ((x8_3).toNat * 4)).block, (ad218.add ((x8_3).toNat * 4)).off + 1, none⟩ = some (.int .u32 ((rd_T26 l0 x8_3).f1)) ∧ w'.cell? ⟨(ad218.add ((x8_3).toNat * 4)).block, (ad218.add ((x8_3).toNat * 4)).off + 2, none⟩ = some (.int .u32 ((rd_T26 l0 x8_3).f2)) ∧ w'.cell? ⟨(ad218.add ((x8_3).toNat * 4)).block, (ad218.add ((x8_3).toNat * 4)).off + 3, none⟩ = some (.string ((rd_T26 l0 x8_3).f3))) (ds := []) #[false, false, false, false, false, false, false, false, false, false, false, false, false] (by kernel_rfl) rfl rfl ⟨(blk_cell BK217.out 0).trans rfl, (blk_cell BK217.out 1).trans rfl, (blk_cell BK217.out 2).trans rfl, ((HB.out.cell (World.block_lt_of_cell? w _ hw218_0)).trans hw218_0), ((HB.out.cell (World.block_lt_of_cell? w _ hw218_1)).trans hw218_1), ((HB.out.cell (World.block_lt_of_cell? w _ hw218_2)).trans hw218_2), ((HB.out.cell (World.block_lt_of_cell? w _ hw218_3)).trans hw218_3), ((HB.out.cell (World.block_lt_of_cell? w _ hw219_0)).trans hw219_0), ((HB.out.cell (World.block_lt_of_cell? w _ hw219_1)).trans hw219_1), ((HB.out.cell (World.block_lt_of_cell? w _ hw219_2)).trans hw219_2), ((HB.out.cell (World.block_lt_of_cell? w _ hw219_3)).trans hw219_3)⟩ (fun hHeld => ?_); refine with_tabW sphragisref09_tree.tab15 sphragisref09_tree.bits15 (fun HT_ HW_ => ?_)
                          generalize wr.drew = w43 at HO_7 HO_207004 BK202 BK206 BK217 HB hx218_0 hx218_1 hx218_2 hx218_3 hx219_0 hx219_1 hx219_2 hx219_3 hHeld ⊢
                          refine pure_ (i := 1) (N := some 51) (v := ?_) (a' := ?_) #[false, true, false, false, false, false, false, false, false, false, false, false, false] rfl rfl (any_of HT_.out (by kernel_rfl)) (fun _ _ _ h => h) (Or.inl ⟨by rfl, ?_⟩) ?_ ?_
                          rotate_left
                          · intro w'
                            go_simp
                            with_reducible rfl
                          rotate_left
                          · simp only [Act.put, List.setIfInBounds_toArray, List.set_cons_zero, List.set_cons_succ, i64_w, i32_w]
                            rfl
                          refine pure_ (i := 2) (N := some 52) (v := ?_) (a' := ?_) #[false, true, true, false, false, false, false, false, false, false, false, false, false] rfl rfl (any_of HT_.out (by kernel_rfl)) (fun _ _ _ h => h) (Or.inl ⟨by rfl, ?_⟩) ?_ ?_
                          rotate_left
                          · intro w'
                            go_simp
                            with_reducible rfl
                          rotate_left
                          · simp only [Act.put, List.setIfInBounds_toArray, List.set_cons_zero, List.set_cons_succ, i64_w, i32_w]
                            rfl
                          refine pure_ (i := 3) (N := some 53) (v := ?_) (a' := ?_) #[false, true, true, true, false, false, false, false, false, false, false, false, false] rfl rfl (any_of HT_.out (by kernel_rfl)) (fun _ _ _ h => h) (Or.inl ⟨by rfl, ?_⟩) ?_ ?_
                          rotate_left
                          · intro w'
                            go_simp
                            with_reducible rfl
                          rotate_left
                          · simp only [Act.put, List.setIfInBounds_toArray, List.set_cons_zero, List.set_cons_succ, i64_w, i32_w]
                            rfl
                          refine pure_ (i := 4) (N := some 54) (v := ?_) (a' := ?_) #[false, true, true, true, true, false, false, false, false, false, false, false, false] rfl rfl (any_of HT_.out (by kernel_rfl)) (fun _ _ _ h => h) (Or.inl ⟨by rfl, ?_⟩) ?_ ?_
                          rotate_left
                          · intro w'
                            go_simp
                            with_reducible rfl
                          rotate_left
                          · simp only [Act.put, List.setIfInBounds_toArray, List.set_cons_zero, List.set_cons_succ, i64_w, i32_w]
                            rfl
                          refine pure_ (i := 6) (N := some 56) (v := ?_) (a' := ?_) #[false, true, true, true, true, false, true, false, false, false, false, false, false] rfl rfl (any_of HT_.out (by kernel_rfl)) (fun _ _ _ h => h) (Or.inl ⟨by rfl, ?_⟩) ?_ ?_
                          rotate_left
                          · intro w'
                            go_simp
                            with_reducible rfl
                          rotate_left
                          · simp only [Act.put, List.setIfInBounds_toArray, List.set_cons_zero, List.set_cons_succ, i64_w, i32_w]
                            rfl
                          refine pure_ (i := 7) (N := some 57) (v := ?_) (a' := ?_) #[false, true, true, true, true, false, true, true, false, false, false, false, false] rfl rfl (any_of HT_.out (by kernel_rfl)) (fun _ _ _ h => h) (Or.inl ⟨by rfl, ?_⟩) ?_ ?_
                          rotate_left
                          · intro w'
                            go_simp
                            with_reducible rfl
                          rotate_left
                          · simp only [Act.put, List.setIfInBounds_toArray, List.set_cons_zero, List.set_cons_succ, i64_w, i32_w]
                            rfl
                          refine pure_ (i := 8) (N := some 58) (v := ?_) (a' := ?_) #[false, true, true, true, true, false, true, true, true, false, false, false, false] rfl rfl (any_of HT_.out (by kernel_rfl)) (fun _ _ _ h => h) (Or.inl ⟨by rfl, ?_⟩) ?_ ?_
                          rotate_left
                          · intro w'
                            go_simp
                            with_reducible rfl
                          rotate_left
                          · simp only [Act.put, List.setIfInBounds_toArray, List.set_cons_zero, List.set_cons_succ, i64_w, i32_w]
                            rfl
                          refine pure_ (i := 9) (N := some 59) (v := ?_) (a' := ?_) #[false, true, true, true, true, false, true, true, true, true, false, false, false] rfl rfl (any_of HT_.out (by kernel_rfl)) (fun _ _ _ h => h) (Or.inl ⟨by rfl, ?_⟩) ?_ ?_
                          rotate_left
                          · intro w'
                            go_simp
                            with_reducible rfl
                          rotate_left
                          · simp only [Act.put, List.setIfInBounds_toArray, List.set_cons_zero, List.set_cons_succ, i64_w, i32_w]
                            rfl
                          refine take_ (i := 0) (N := some 50) (v := ?_) (a' := ?_) #[true, true, true, true, true, false, true, true, true, true, false, false, false] rfl rfl (take_ofW HT_.out HW_.out (by kernel_rfl)) (fun _ _ _ h => h) (Or.inl ⟨by rfl, ?_⟩) hHeld ?_ ?_
                          rotate_left
                          · rintro w' ⟨s0, s1, s2, s3, s4, s5, s6, s7, s8, s9, s10⟩
                            go_simp
                            with_reducible rfl
                          rotate_left
                          · simp only [Act.put, List.setIfInBounds_toArray, List.set_cons_zero, List.set_cons_succ, i64_w, i32_w]
                            rfl
                          refine take_ (i := 5) (N := some 55) (v := ?_) (a' := ?_) #[true, true, true, true, true, true, true, true, true, true, false, false, false] rfl rfl (take_ofW HT_.out HW_.out (by kernel_rfl)) (fun _ _ _ h => h) (Or.inl ⟨by rfl, ?_⟩) hHeld ?_ ?_
                          rotate_left
                          · rintro w' ⟨s0, s1, s2, s3, s4, s5, s6, s7, s8, s9, s10⟩
                            go_simp
                            with_reducible rfl
                          rotate_left
                          · simp only [Act.put, List.setIfInBounds_toArray, List.set_cons_zero, List.set_cons_succ, i64_w, i32_w]
                            rfl
                          refine take_ (i := 10) (N := some 60) (v := ?_) (a' := ?_) #[true, true, true, true, true, true, true, true, true, true, true, false, false] rfl rfl (take_ofW HT_.out HW_.out (by kernel_rfl)) (fun _ _ _ h => h) (Or.inl ⟨by rfl, ?_⟩) hHeld ?_ ?_
                          rotate_left
                          · rintro w' ⟨s0, s1, s2, s3, s4, s5, s6, s7, s8, s9, s10⟩
                            go_simp
                            with_reducible rfl
                          rotate_left
                          · simp only [Act.put, List.setIfInBounds_toArray, List.set_cons_zero, List.set_cons_succ, i64_w, i32_w]
                            rfl
                          refine one_ (i := 11) (N := some 61) #[true, true, true, true, true, true, true, true, true, true, true, true, false] rfl rfl (one_of HT_.out (by kernel_rfl)) (by decide) (fun K hK => ?_)
                          refine goes_ Try.func61 (by kernel_rfl) rfl #[.agg #[.int .u32 t213, .int .u32 t214, .int .i64 t215], .int .u32 ((rd_T26 l0 x8_3).f1), .int .u32 ((rd_T26 l0 x8_3).f2)] (by rfl) rfl rfl (by (try simp only [List.map_toArray, List.map_cons, List.map_nil]); first | done | rfl | (simp only [List.length_drop, List.length_take]; rfl)) ?_
                          with_reducible refine (sphragisref08_Has.calls k3 t213 t214 t215 ((rd_T26 l0 x8_3).f1) ((rd_T26 l0 x8_3).f2) false _ A37.out).mono ?_
                          rintro e w44 ⟨rfl, hb⟩
                          refine ⟨_, rfl, ?_⟩
                          have n0_ := Aside0.mk (Kd.R_below (by (with_reducible repeat (first | apply Kd.R_alloc | apply Kd.R_drewN | apply Kd.R_drew)); exact HO_7.out) hb)
                          have n1_ := Aside0.mk (Kd.R_below (by (with_reducible repeat (first | apply Kd.R_alloc | apply Kd.R_drewN | apply Kd.R_drew)); exact HO_207004.out) hb)
                          have n2_ := Aside0.mk (blk_below (g := gb202) (o := .cells #[.int .u32 0, .int .u32 0, .int .i64 0, .slice none 0 0, .slice none 0 0] 33 (0, 0)) (by (with_reducible repeat (first | refine blk_drewN ?_ _ | refine blk_drew ?_ | refine blk_alloc ?_ _)); exact BK202.out) hb)
                          have n3_ := Aside0.mk (blk_below (g := gb206) (o := .cells #[.int .u32 t203, .int .u32 t204, .int .i64 t205, .slice none 0 0, u207004] 33 (0, 0)) (by (with_reducible repeat (first | refine blk_drewN ?_ _ | refine blk_drew ?_ | refine blk_alloc ?_ _)); exact BK206.out) hb)
                          have n4_ := Aside0.mk (blk_below (g := gb217) (o := .cells #[.int .u32 t213, .int .u32 t214, .int .i64 t215] 30 (0, 0)) (by (with_reducible repeat (first | refine blk_drewN ?_ _ | refine blk_drew ?_ | refine blk_alloc ?_ _)); exact BK217.out) hb)
                          have n5_ := Aside0.mk (below_step (by repeat (first | (with_reducible first | exact HB.out | apply below_alloc | apply pw_below_drewN | apply below_drew1 | refine below_set ?_ GE202.out | refine below_set ?_ GE206.out | refine below_set ?_ GE217.out) | exact HB.out)) hb)
                          clear HO_7
                          clear HO_207004
                          clear BK202
                          clear BK206
                          clear BK217
                          clear HB
                          have HO_7 := n0_
                          have HO_207004 := n1_
                          have BK202 := n2_
                          have BK206 := n3_
                          have BK217 := n4_
                          have HB := n5_
                          clear n0_ n1_ n2_ n3_ n4_ n5_
                          (try clear hb)
                          (try clear hb2)
                          (try clear hk)
                          (try clear hi)
                          refine hK.out _ _ ⟨(blk_cell BK217.out 0).trans rfl, (blk_cell BK217.out 1).trans rfl, (blk_cell BK217.out 2).trans rfl, ((HB.out.cell (World.block_lt_of_cell? w _ hw218_0)).trans hw218_0), ((HB.out.cell (World.block_lt_of_cell? w _ hw218_1)).trans hw218_1), ((HB.out.cell (World.block_lt_of_cell? w _ hw218_2)).trans hw218_2), ((HB.out.cell (World.block_lt_of_cell? w _ hw218_3)).trans hw218_3), ((HB.out.cell (World.block_lt_of_cell? w _ hw219_0)).trans hw219_0), ((HB.out.cell (World.block_lt_of_cell? w _ hw219_1)).trans hw219_1), ((HB.out.cell (World.block_lt_of_cell? w _ hw219_2)).trans hw219_2), ((HB.out.cell (World.block_lt_of_cell? w _ hw219_3)).trans hw219_3)⟩ (fun hHeld => ?_)
                          clear hK K
                          refine norm_ (a' := ?_) ?_ ?_
                          rotate_left
                          · show Act.put _ (some 61) _ = _
                            simp only [Act.put, List.setIfInBounds_toArray, List.set_cons_zero, List.set_cons_succ, i64_w, i32_w]
                            rfl
                          refine pure_ (i := 12) (N := some 9) (v := ?_) (a' := ?_) #[true, true, true, true, true, true, true, true, true, true, true, true, true] rfl rfl (any_of HT_.out (by kernel_rfl)) (fun _ _ _ h => h) (Or.inl ⟨by rfl, ?_⟩) ?_ ?_
                          rotate_left
                          · intro w'
                            go_simp
                            with_reducible rfl
                          rotate_left
                          · simp only [Act.put, List.setIfInBounds_toArray, List.set_cons_zero, List.set_cons_succ, i64_w, i32_w]
                            rfl
                          refine done_ (done_of HT_.out (by kernel_rfl)) ?_
                          try go_wp2
                          go_roundg k3
                          case measure => have := HJ5.out; have := HK2.out; have := HK3.out; omega
                          case rel => exact ⟨(x7_3), (wrap64 (x8_3 + 1)), (by first | rfl | (simp; done) | (simp [*]; done)), H', ⟨by have := HJ5.out; have := HK2.out; have := HK3.out; omega⟩, ⟨by (with_reducible repeat (first | apply Kd.R_alloc | apply Kd.R_drewN | apply Kd.R_drew)); exact HO_7.out⟩, ⟨by (with_reducible repeat (first | apply Kd.R_alloc | apply Kd.R_drewN | apply Kd.R_drew)); exact HO_207004.out⟩, ⟨by (with_reducible repeat (first | refine blk_drewN ?_ _ | refine blk_drew ?_ | refine blk_alloc ?_ _)); exact BK202.out⟩, ⟨by (with_reducible repeat (first | refine blk_drewN ?_ _ | refine blk_drew ?_ | refine blk_alloc ?_ _)); exact BK206.out⟩, ⟨by (with_reducible repeat (first | refine blk_drewN ?_ _ | refine blk_drew ?_ | refine blk_alloc ?_ _)); exact BK217.out⟩, ⟨by repeat (first | (with_reducible first | exact HB.out | apply below_alloc | apply pw_below_drewN | apply below_drew1 | refine below_set ?_ GE202.out | refine below_set ?_ GE206.out | refine below_set ?_ GE217.out) | exact HB.out)⟩⟩
                      · rw [if_neg c36] at H
                        exact absurd H (by simp)
                    · rw [if_neg c35] at H
                      have c35b0 : decide (x8_3 < (l0.length : Int)) = false := decide_eq_false c35
                      clear c35
                      by_cases c45 : (x7_3.length : Int) > 0
                      · rw [if_pos c45] at H
                        have c45b0 : decide (0 < (x7_3.length : Int)) = true := decide_eq_true c45
                        have c45b1 : decide (0 < x7_3.length) = true := decide_eq_true (by omega)
                        clear c45
                        replace H := Option.bind_eq_some_iff.mp H
                        obtain ⟨⟨t225, t226, t227, t228, t231⟩, A460, H⟩ := H
                        replace H : (if x207004_2.length < 2199023255552 then (sphragisref09_tree.l0 k3 l0 (wrap64 (x4_2 + 1)) t203 t204 t205 (x207004_2 ++ [(⟨(⟨t225, t226, t227⟩ : S30), t228, t231⟩ : S33)])) else (none)) = some (r1, r2, r3, r4, r5) := H
                        have A46 := Aside0.mk A460
                        clear A460
                        by_cases c47 : x207004_2.length < 2199023255552
                        · rw [if_pos c47] at H
                          have LMc47 := Aside0.mk c47
                          clear c47
                          obtain ⟨y234, hy234⟩ : ∃ y_ : List (S33), y_ = (x207004_2 ++ [(⟨(⟨t225, t226, t227⟩ : S30), t228, t231⟩ : S33)]) := ⟨_, rfl⟩
                          replace H : (sphragisref09_tree.l0 k3 l0 (wrap64 (x4_2 + 1)) t203 t204 t205 y234) = some (r1, r2, r3, r4, r5) := by first | (rw [hy234]; with_reducible exact H) | (have H2_ := (Option.bind_some _ _).symm.trans H; rw [hy234]; with_reducible exact H2_) | (have H2_ := (Option.bind_some _ _).symm.trans H; with_reducible exact H2_) | with_reducible exact H | (rw [hy234]; exact H) | exact H
                          have Ny234 := Aside0.mk hy234
                          clear hy234
                          have H' := Aside0.mk H
                          clear H
                          obtain ⟨Ao48, co48, eo48⟩ := Kd.R_slice HO_7.out
                          subst eo48
                          try go_wp2
                          have n0_ := Aside0.mk (Kd.R_drew HO_7.out)
                          have n1_ := Aside0.mk (Kd.R_drew HO_207004.out)
                          have n2_ := Aside0.mk (blk_drew BK202.out)
                          have n3_ := Aside0.mk (blk_drew BK206.out)
                          have n4_ := Aside0.mk (blk_drew BK217.out)
                          have n5_ := Aside0.mk (below_drew1 HB.out)
                          clear HO_7
                          clear HO_207004
                          clear BK202
                          clear BK206
                          clear BK217
                          clear HB
                          have HO_7 := n0_
                          have HO_207004 := n1_
                          have BK202 := n2_
                          have BK206 := n3_
                          have BK217 := n4_
                          have HB := n5_
                          clear n0_ n1_ n2_ n3_ n4_ n5_
                          refine start_ (n := 8) (S := fun w' => w'.cell? ⟨gb206, 0, none⟩ = some (.int .u32 t203) ∧ w'.cell? ⟨gb206, 1, none⟩ = some (.int .u32 t204) ∧ w'.cell? ⟨gb206, 2, none⟩ = some (.int .i64 t205) ∧ w'.cell? ⟨gb206, 3, none⟩ = some (.slice none 0 0) ∧ w'.cell? ⟨gb206, 4, none⟩ = some (u207004)) (ds := [7]) #[false, false, false, false, false, false, false, false] (by kernel_rfl) rfl rfl ⟨(blk_cell BK206.out 0).trans rfl, (blk_cell BK206.out 1).trans rfl, (blk_cell BK206.out 2).trans rfl, (blk_cell BK206.out 3).trans rfl, (blk_cell BK206.out 4).trans rfl⟩ (fun hHeld => ?_); refine with_tabW sphragisref09_tree.tab19 sphragisref09_tree.bits19 (fun HT_ HW_ => ?_)
                          generalize wr.drew = w49 at HO_7 HO_207004 BK202 BK206 BK217 HB hHeld ⊢
                          refine pure_ (i := 0) (N := some 73) (v := ?_) (a' := ?_) #[true, false, false, false, false, false, false, false] rfl rfl (any_of HT_.out (by kernel_rfl)) (fun _ _ _ h => h) (Or.inl ⟨by rfl, ?_⟩) ?_ ?_
                          rotate_left
                          · intro w'
                            go_simp
                            with_reducible rfl
                          rotate_left
                          · simp only [Act.put, List.setIfInBounds_toArray, List.set_cons_zero, List.set_cons_succ, i64_w, i32_w]
                            rfl
                          refine pure_ (i := 2) (N := some 75) (v := ?_) (a' := ?_) #[true, false, true, false, false, false, false, false] rfl rfl (any_of HT_.out (by kernel_rfl)) (fun _ _ _ h => h) (Or.inl ⟨by rfl, ?_⟩) ?_ ?_
                          rotate_left
                          · intro w'
                            go_simp
                            with_reducible rfl
                          rotate_left
                          · simp only [Act.put, List.setIfInBounds_toArray, List.set_cons_zero, List.set_cons_succ, i64_w, i32_w]
                            rfl
                          refine take_ (i := 1) (N := some 74) (v := ?_) (a' := ?_) #[true, true, true, false, false, false, false, false] rfl rfl (take_ofW HT_.out HW_.out (by kernel_rfl)) (fun _ _ _ h => h) (Or.inl ⟨by rfl, ?_⟩) hHeld ?_ ?_
                          rotate_left
                          · rintro w' ⟨s0, s1, s2, s3, s4⟩
                            go_simp
                            with_reducible rfl
                          rotate_left
                          · simp only [Act.put, List.setIfInBounds_toArray, List.set_cons_zero, List.set_cons_succ, i64_w, i32_w]
                            rfl
                          refine one_ (i := 3) (N := some 76) #[true, true, true, true, false, false, false, false] rfl rfl (one_of HT_.out (by kernel_rfl)) (by decide) (fun K hK => ?_)
                          refine goes_ Try.func34 (by kernel_rfl) rfl #[.slice Ao48 x7_3.length co48] (by rfl) rfl rfl (by (try simp only [List.map_toArray, List.map_cons, List.map_nil]); first | done | rfl | (simp only [List.length_drop, List.length_take]; rfl)) ?_
                          with_reducible refine (ih k3 (by have := HJ5.out; have := HK2.out; have := HK3.out; omega) _ _ x7_3 t225 t226 t227 t228 t231 _ ?side1 ?side2 A46.out).mono ?_
                          (case side1 => repeat (first | exact (Kd.R_reads' HO_7.out).2.2 | (with_reducible refine Kd.C_alloc ?_ _) | (with_reducible refine Kd.C_drewN ?_ _) | (with_reducible refine Kd.C_drew ?_)))
                          (case side2 => exact (Kd.R_reads' HO_7.out).2.1)
                          rintro e w50 ⟨v229, v232, rfl, ho0, ho1, hb⟩
                          refine ⟨_, rfl, ?_⟩
                          have n0_ := Aside0.mk (Kd.R_elder' (by (with_reducible repeat (first | apply Kd.R_alloc | apply Kd.R_drewN | apply Kd.R_drew)); exact HO_7.out) (Kd.R_base ho0) hb)
                          have n1_ := Aside0.mk (Kd.R_mono (Kd.R_told (Kd.R_told (Kd.R_old (by (with_reducible repeat (first | apply Kd.R_alloc | apply Kd.R_drewN | apply Kd.R_drew)); exact HO_207004.out) hb) (Kd.R_base ho0)) (Kd.R_base ho1)) (fun _ h_ => h_.1))
                          have n2_ := Aside0.mk (Kd.R_lower (Kd.R_new' ho0 (Kd.R_lt (by (with_reducible repeat (first | apply Kd.R_alloc | apply Kd.R_drewN | apply Kd.R_drew)); exact HO_7.out))) (below_size (by repeat (first | (with_reducible first | exact HB.out | apply below_alloc | apply pw_below_drewN | apply below_drew1 | refine below_set ?_ GE202.out | refine below_set ?_ GE206.out | refine below_set ?_ GE217.out) | exact HB.out))))
                          have n3_ := Aside0.mk (Kd.R_lower (Kd.R_newB (Kd.R_newB (Kd.R_new' (Kd.R_new' ho1 (Kd.R_lt (by (with_reducible repeat (first | apply Kd.R_alloc | apply Kd.R_drewN | apply Kd.R_drew)); exact HO_7.out))) (Kd.R_lt (by (with_reducible repeat (first | apply Kd.R_alloc | apply Kd.R_drewN | apply Kd.R_drew)); exact HO_207004.out))) (g := gb202) (o := .cells #[.int .u32 0, .int .u32 0, .int .i64 0, .slice none 0 0, .slice none 0 0] 33 (0, 0)) (by (with_reducible repeat (first | refine blk_drewN ?_ _ | refine blk_drew ?_ | refine blk_alloc ?_ _)); exact BK202.out)) (g := gb206) (o := .cells #[.int .u32 t203, .int .u32 t204, .int .i64 t205, .slice none 0 0, u207004] 33 (0, 0)) (by (with_reducible repeat (first | refine blk_drewN ?_ _ | refine blk_drew ?_ | refine blk_alloc ?_ _)); exact BK206.out)) (below_size (by repeat (first | (with_reducible first | exact HB.out | apply below_alloc | apply pw_below_drewN | apply below_drew1 | refine below_set ?_ GE202.out | refine below_set ?_ GE206.out | refine below_set ?_ GE217.out) | exact HB.out))))
                          have n4_ := Aside0.mk (blk_below (g := gb202) (o := .cells #[.int .u32 0, .int .u32 0, .int .i64 0, .slice none 0 0, .slice none 0 0] 33 (0, 0)) (by (with_reducible repeat (first | refine blk_drewN ?_ _ | refine blk_drew ?_ | refine blk_alloc ?_ _)); exact BK202.out) hb)
                          have n5_ := Aside0.mk (blk_below (g := gb206) (o := .cells #[.int .u32 t203, .int .u32 t204, .int .i64 t205, .slice none 0 0, u207004] 33 (0, 0)) (by (with_reducible repeat (first | refine blk_drewN ?_ _ | refine blk_drew ?_ | refine blk_alloc ?_ _)); exact BK206.out) hb)
                          have n6_ := Aside0.mk (blk_below (g := gb217) (o := .cells #[.int .u32 t213, .int .u32 t214, .int .i64 t215] 30 (0, 0)) (by (with_reducible repeat (first | refine blk_drewN ?_ _ | refine blk_drew ?_ | refine blk_alloc ?_ _)); exact BK217.out) hb)
                          have n7_ := Aside0.mk (below_step (by repeat (first | (with_reducible first | exact HB.out | apply below_alloc | apply pw_below_drewN | apply below_drew1 | refine below_set ?_ GE202.out | refine below_set ?_ GE206.out | refine below_set ?_ GE217.out) | exact HB.out)) hb)
                          clear HO_7
                          clear HO_207004
                          clear BK202
                          clear BK206
                          clear BK217
                          clear HB
                          have HO_7 := n0_
                          have HO_207004 := n1_
                          have HO230 := n2_
                          have HO233 := n3_
                          have BK202 := n4_
                          have BK206 := n5_
                          have BK217 := n6_
                          have HB := n7_
                          clear n0_ n1_ n2_ n3_ n4_ n5_ n6_ n7_
                          (try clear hb)
                          (try clear hb2)
                          (try clear hk)
                          (try clear hi)
                          (try clear ho0)
                          (try clear ho1)
                          obtain ⟨Ao52, co52, eo52⟩ := Kd.R_slice HO230.out
                          (first | subst eo52 | (injection eo52 with f1_ f2_ f3_; have f4_ := f1_.symm; have f5_ := f3_.symm; clear f1_ f2_ f3_; subst f4_; subst f5_))
                          obtain ⟨Ao53, co53, eo53⟩ := Kd.R_slice HO233.out
                          (first | subst eo53 | (injection eo53 with f1_ f2_ f3_; have f4_ := f1_.symm; have f5_ := f3_.symm; clear f1_ f2_ f3_; subst f4_; subst f5_))
                          refine hK.out _ _ ⟨(blk_cell BK206.out 0).trans rfl, (blk_cell BK206.out 1).trans rfl, (blk_cell BK206.out 2).trans rfl, (blk_cell BK206.out 3).trans rfl, (blk_cell BK206.out 4).trans rfl⟩ (fun hHeld => ?_)
                          clear hK K
                          refine norm_ (a' := ?_) ?_ ?_
                          rotate_left
                          · show Act.put _ (some 76) _ = _
                            simp only [Act.put, List.setIfInBounds_toArray, List.set_cons_zero, List.set_cons_succ, i64_w, i32_w]
                            rfl
                          refine one_ (i := 4) (N := some 77) #[true, true, true, true, true, false, false, false] rfl rfl (one_of HT_.out (by kernel_rfl)) (by decide) (fun K hK => ?_)
                          refine value_ (w1 := ?_) (v := ?_) (by rfl) rfl ?_ ?_
                          rotate_left 2
                          · go_simp
                            constructor
                            · rfl
                            · rfl
                          refine hK.out _ _ ⟨(blk_cell (blk_alloc BK206.out _) 0).trans rfl, (blk_cell (blk_alloc BK206.out _) 1).trans rfl, (blk_cell (blk_alloc BK206.out _) 2).trans rfl, (blk_cell (blk_alloc BK206.out _) 3).trans rfl, (blk_cell (blk_alloc BK206.out _) 4).trans rfl⟩ (fun hHeld => ?_)
                          clear hK K
                          refine norm_ (a' := ?_) ?_ ?_
                          rotate_left
                          · show Act.put _ (some 77) _ = _
                            simp only [Act.put, List.setIfInBounds_toArray, List.set_cons_zero, List.set_cons_succ, i64_w, i32_w]
                            rfl
                          refine one_ (i := 5) (N := some 78) #[true, true, true, true, true, true, false, false] rfl rfl (one_of HT_.out (by kernel_rfl)) (by decide) (fun K hK => ?_)
                          refine Kd.R_append_step k33 (w0 := w) w.heap.size (by rfl) (.tmp 74) (.tmp 77) 31 33 (.agg #[(.int .u32 0), (.int .u32 0), (.int .i64 0), (.slice none 0 0), (.slice none 0 0)]) 64 rfl Try.underlying31 info33 rfl (by decide) (by omega) u207004 x207004_2 (⟨(⟨t225, t226, t227⟩ : S30), t228, t231⟩ : S33) [.int .u32 t225, .int .u32 t226, .int .i64 t227, .slice Ao52 t228.length co52, .slice Ao53 t231.length co53] (fun k_ => some k_ ≠ (.slice Ao48 x7_3.length co48 : Value).ownBlock ∧ k_ ≠ gb202 ∧ k_ ≠ gb206) (fun k_ => ((fun k_ => some k_ ≠ (.slice Ao48 x7_3.length co48 : Value).ownBlock ∧ k_ ≠ gb202 ∧ k_ ≠ gb206)) k_ ∧ some k_ ≠ (u207004 : Value).ownBlock) rfl rfl ?aP (fun _ hk => hk) ?aF ?aO ?aB ?aS ?aL ?_
                          (case aP => exact k33_mkM _ _ _ (⟨(⟨t225, t226, t227⟩ : S30), t228, t231⟩ : S33) (Kd.R_mono (Kd.R_types (Kd.R_types (Kd.R_apart' (HO230.out) (Kd.R_typed HO_207004.out) (by decide)) BK202.out (by decide)) BK206.out (by decide)) (fun k_ hk => ⟨⟨hk.1.1.1.2, ⟨hk.1.2, hk.2⟩⟩, hk.1.1.2⟩)) (Kd.R_mono (HO233.out) (fun k_ hk => ⟨⟨hk.1.1.1.2, ⟨hk.1.2, hk.2⟩⟩, hk.1.1.2⟩)))
                          (case aB => exact (by repeat (first | (with_reducible first | exact HB.out | apply below_alloc | apply pw_below_drewN | apply below_drew1 | refine below_set ?_ GE202.out | refine below_set ?_ GE206.out | refine below_set ?_ GE217.out) | exact HB.out)))
                          (case aF => exact (fun k_ hk => ⟨Kd.fresh' (Kd.R_lt (by (with_reducible repeat (first | apply Kd.R_alloc | apply Kd.R_drewN | apply Kd.R_drew)); exact HO_7.out)) k_ hk, Kd.freshB (g := gb202) (o := .cells #[.int .u32 0, .int .u32 0, .int .i64 0, .slice none 0 0, .slice none 0 0] 33 (0, 0)) (by (with_reducible repeat (first | refine blk_drewN ?_ _ | refine blk_drew ?_ | refine blk_alloc ?_ _)); exact BK202.out) k_ hk, Kd.freshB (g := gb206) (o := .cells #[.int .u32 t203, .int .u32 t204, .int .i64 t205, .slice none 0 0, u207004] 33 (0, 0)) (by (with_reducible repeat (first | refine blk_drewN ?_ _ | refine blk_drew ?_ | refine blk_alloc ?_ _)); exact BK206.out) k_ hk⟩))
                          (case aO => exact (by (with_reducible repeat (first | apply Kd.R_alloc | apply Kd.R_drewN | apply Kd.R_drew)); exact Kd.R_mono HO_207004.out (fun _ hk => ⟨hk.1.1.1, ⟨hk.1.1.2.1, hk.1.1.2.2⟩⟩)))
                          (case aS => exact (below_size (by repeat (first | (with_reducible first | exact HB.out | apply below_alloc | apply pw_below_drewN | apply below_drew1 | refine below_set ?_ GE202.out | refine below_set ?_ GE206.out | refine below_set ?_ GE217.out) | exact HB.out))))
                          (case aL => have := LMc47.out; omega)
                          intro v235 w51 ho hb hg hat
                          rw [← Ny234.out] at ho
                          have n0_ := Aside0.mk (Kd.R_over' (by (with_reducible repeat (first | apply Kd.R_alloc | apply Kd.R_drewN | apply Kd.R_drew)); exact HO_7.out) (Kd.R_typed (by (with_reducible repeat (first | apply Kd.R_alloc | apply Kd.R_drewN | apply Kd.R_drew)); exact HO_207004.out)) (by decide) hg)
                          have n1_ := Aside0.mk (blk_grown (g := gb202) (o := .cells #[.int .u32 0, .int .u32 0, .int .i64 0, .slice none 0 0, .slice none 0 0] 33 (0, 0)) (by (with_reducible repeat (first | refine blk_drewN ?_ _ | refine blk_drew ?_ | refine blk_alloc ?_ _)); exact BK202.out) hg (Kd.R_away HO_207004.out (fun _ hk => hk.1.1.2.1)))
                          have n2_ := Aside0.mk (blk_grown (g := gb206) (o := .cells #[.int .u32 t203, .int .u32 t204, .int .i64 t205, .slice none 0 0, u207004] 33 (0, 0)) (by (with_reducible repeat (first | refine blk_drewN ?_ _ | refine blk_drew ?_ | refine blk_alloc ?_ _)); exact BK206.out) hg (Kd.R_away HO_207004.out (fun _ hk => hk.1.1.2.2)))
                          have n3_ := Aside0.mk (blk_grown (g := gb217) (o := .cells #[.int .u32 t213, .int .u32 t214, .int .i64 t215] 30 (0, 0)) (by (with_reducible repeat (first | refine blk_drewN ?_ _ | refine blk_drew ?_ | refine blk_alloc ?_ _)); exact BK217.out) hg (Kd.R_ne HO_207004.out BK217.out (by decide)))
                          have n4_ := Aside0.mk (hb)
                          have n5_ := Aside0.mk (ho)
                          clear HO_7
                          clear BK202
                          clear BK206
                          clear BK217
                          clear HB
                          clear HO_207004
                          clear HO230
                          clear HO233
                          have HO_7 := n0_
                          have BK202 := n1_
                          have BK206 := n2_
                          have BK217 := n3_
                          have HB := n4_
                          have HO236 := n5_
                          clear n0_ n1_ n2_ n3_ n4_ n5_
                          clear ho hb hg hat
                          obtain ⟨Ao54, co54, eo54⟩ := Kd.R_slice HO236.out
                          (first | subst eo54 | (injection eo54 with f1_ f2_ f3_; have f4_ := f1_.symm; have f5_ := f3_.symm; clear f1_ f2_ f3_; subst f4_; subst f5_))
                          refine hK.out _ _ ⟨(blk_cell BK206.out 0).trans rfl, (blk_cell BK206.out 1).trans rfl, (blk_cell BK206.out 2).trans rfl, (blk_cell BK206.out 3).trans rfl, (blk_cell BK206.out 4).trans rfl⟩ (fun hHeld => ?_)
                          clear hK K
                          refine norm_ (a' := ?_) ?_ ?_
                          rotate_left
                          · show Act.put _ (some 78) _ = _
                            simp only [Act.put, List.setIfInBounds_toArray, List.set_cons_zero, List.set_cons_succ, i64_w, i32_w]
                            rfl
                          refine pure_ (i := 6) (N := some 79) (v := ?_) (a' := ?_) #[true, true, true, true, true, true, true, false] rfl rfl (any_of HT_.out (by kernel_rfl)) (fun _ _ _ h => h) (Or.inl ⟨by rfl, ?_⟩) ?_ ?_
                          rotate_left
                          · intro w'
                            go_simp
                            with_reducible rfl
                          rotate_left
                          · simp only [Act.put, List.setIfInBounds_toArray, List.set_cons_zero, List.set_cons_succ, i64_w, i32_w]
                            rfl
                          refine last_ (i := 7) (N := none) #[true, true, true, true, true, true, true, true] rfl rfl (one_of HT_.out (by kernel_rfl)) (by decide) (fun K hK => ?_)
                          have hs55 : w51.cell? ⟨gb206, 4, none⟩ = some (u207004) := (blk_cell BK206.out 4).trans rfl
                          have hfs55 := blk_frozen BK206.out 4
                          have hns55_0 := NB202_206.out
                          have hns55_2 := NB217_206.out
                          have hms55_0 := NB206_202.out
                          have hms55_2 := NB206_217.out
                          refine skip_ (w1 := ?_) (by rfl) rfl ?_ ?_
                          rotate_left
                          · go_simp
                            rfl
                          refine hK.out _ _ ?_
                          clear hK K
                          refine done_ (done_of HT_.out (by kernel_rfl)) ?_
                          try go_wp2
                          go_roundg k3
                          case measure => have := HJ5.out; have := HK2.out; have := HK3.out; omega
                          case rel => exact ⟨(wrap64 (x4_2 + 1)), (y234), (.slice Ao54 y234.length co54), (by first | rfl | (simp; done) | (simp [*]; done)), H', ⟨by have := HJ5.out; have := HK2.out; have := HK3.out; omega⟩, ⟨by (with_reducible repeat (first | apply Kd.R_alloc | apply Kd.R_drewN | apply Kd.R_drew)); exact Kd.R_mono (Kd.R_far (p := ⟨gb206, 4, none⟩) (Kd.R_mono HO236.out (fun k_ hk => (⟨hk, hk.2.2⟩ : _ ∧ k_ ≠ gb206))) (fun _ hk => hk.2) (.slice Ao54 y234.length co54)) (fun _ hk => ⟨hk.1.2.1, hk.1.2.2⟩)⟩, ⟨by (with_reducible repeat (first | refine blk_drewN ?_ _ | refine blk_drew ?_ | refine blk_alloc ?_ _)); refine blk_far ?_ NB202_206.out _; (with_reducible repeat (first | refine blk_drewN ?_ _ | refine blk_drew ?_ | refine blk_alloc ?_ _)); exact BK202.out⟩, ⟨by (with_reducible repeat (first | refine blk_drewN ?_ _ | refine blk_drew ?_ | refine blk_alloc ?_ _)); refine blk_put (cs := #[.int .u32 t203, .int .u32 t204, .int .i64 t205, .slice none 0 0, u207004]) ?_ 4 _ (by first | rfl | (simp; done)); (with_reducible repeat (first | refine blk_drewN ?_ _ | refine blk_drew ?_ | refine blk_alloc ?_ _)); exact BK206.out⟩, ⟨by repeat (first | (with_reducible first | exact HB.out | apply below_alloc | apply pw_below_drewN | apply below_drew1 | refine below_set ?_ GE202.out | refine below_set ?_ GE206.out | refine below_set ?_ GE217.out) | exact HB.out)⟩⟩
                        · rw [if_neg c47] at H
                          exact absurd H (by simp)
                      · rw [if_neg c45] at H
                        have c45b0 : decide (0 < (x7_3.length : Int)) = false := decide_eq_false c45
                        have c45b1 : decide (0 < x7_3.length) = false := decide_eq_false (by omega)
                        clear c45
                        have H' := Aside0.mk H
                        clear H
                        obtain ⟨Ao56, co56, eo56⟩ := Kd.R_slice HO_7.out
                        subst eo56
                        go_wp2
                        go_roundg k3
                        case measure => have := HJ5.out; have := HK2.out; have := HK3.out; omega
                        case rel => exact ⟨(wrap64 (x4_2 + 1)), (x207004_2), (u207004), (by first | rfl | (simp; done) | (simp [*]; done)), H', ⟨by have := HJ5.out; have := HK2.out; have := HK3.out; omega⟩, ⟨by (with_reducible repeat (first | apply Kd.R_alloc | apply Kd.R_drewN | apply Kd.R_drew)); exact Kd.R_mono HO_207004.out (fun _ hk => ⟨hk.2.1, hk.2.2⟩)⟩, ⟨by (with_reducible repeat (first | refine blk_drewN ?_ _ | refine blk_drew ?_ | refine blk_alloc ?_ _)); exact BK202.out⟩, ⟨by (with_reducible repeat (first | refine blk_drewN ?_ _ | refine blk_drew ?_ | refine blk_alloc ?_ _)); exact BK206.out⟩, ⟨by repeat (first | (with_reducible first | exact HB.out | apply below_alloc | apply pw_below_drewN | apply below_drew1 | refine below_set ?_ GE202.out | refine below_set ?_ GE206.out | refine below_set ?_ GE217.out) | exact HB.out)⟩⟩
              · rw [if_neg c26] at H
                have c26b0 : decide (x4_2 < 4) = false := decide_eq_false c26
                clear c26
                simp only [Option.some.injEq, Prod.mk.injEq] at H
                obtain ⟨rfl, rfl, rfl, rfl, rfl⟩ := H
                have hnb57 := NB206_202.out
                have hnc57 := NB202_206.out
                have hcz58_0 : wr.cell? ⟨gb206, 0, none⟩ = some (.int .u32 t203) := (blk_cell BK206.out 0).trans rfl
                have hcz58_1 : wr.cell? ⟨gb206, 1, none⟩ = some (.int .u32 t204) := (blk_cell BK206.out 1).trans rfl
                have hcz58_2 : wr.cell? ⟨gb206, 2, none⟩ = some (.int .i64 t205) := (blk_cell BK206.out 2).trans rfl
                have hcz58_3 : wr.cell? ⟨gb206, 3, none⟩ = some (.slice none 0 0) := (blk_cell BK206.out 3).trans rfl
                have hcz58_4 : wr.cell? ⟨gb206, 4, none⟩ = some (u207004) := (blk_cell BK206.out 4).trans rfl
                have hfz58_0 := blk_frozen BK206.out 0
                have hfz58_1 := blk_frozen BK206.out 1
                have hfz58_2 := blk_frozen BK206.out 2
                have hfz58_3 := blk_frozen BK206.out 3
                have hfz58_4 := blk_frozen BK206.out 4
                have hcz59_0 : wr.cell? ⟨gb202, 0, none⟩ = some (.int .u32 0) := (blk_cell BK202.out 0).trans rfl
                have hcz59_1 : wr.cell? ⟨gb202, 1, none⟩ = some (.int .u32 0) := (blk_cell BK202.out 1).trans rfl
                have hcz59_2 : wr.cell? ⟨gb202, 2, none⟩ = some (.int .i64 0) := (blk_cell BK202.out 2).trans rfl
                have hcz59_3 : wr.cell? ⟨gb202, 3, none⟩ = some (.slice none 0 0) := (blk_cell BK202.out 3).trans rfl
                have hcz59_4 : wr.cell? ⟨gb202, 4, none⟩ = some (.slice none 0 0) := (blk_cell BK202.out 4).trans rfl
                have hfz59_0 := blk_frozen BK202.out 0
                have hfz59_1 := blk_frozen BK202.out 1
                have hfz59_2 := blk_frozen BK202.out 2
                have hfz59_3 := blk_frozen BK202.out 3
                have hfz59_4 := blk_frozen BK202.out 4
                obtain ⟨Ao60, co60, eo60⟩ := Kd.R_slice HO_207004.out
                subst eo60
                go_wp2
                refine bodyPost_ret (results_cell_row rfl _ _ gb202 33 #[.int .u32 t203, .int .u32 t204, .int .i64 t205, .slice none 0 0, .slice Ao60 x207004_2.length co60] (0, 0) _ rfl (by (with_reducible repeat (first | refine blk_drewN ?_ _ | refine blk_drew ?_ | refine blk_alloc ?_ _)); refine blk_put (cs := #[.int .u32 t203, .int .u32 t204, .int .i64 t205, .slice none 0 0, .slice none 0 0]) ?_ 4 _ (by first | rfl | (simp; done)); (with_reducible repeat (first | refine blk_drewN ?_ _ | refine blk_drew ?_ | refine blk_alloc ?_ _)); refine blk_put (cs := #[.int .u32 t203, .int .u32 t204, .int .i64 t205, .slice none 0 0, .slice none 0 0]) ?_ 3 _ (by first | rfl | (simp; done)); (with_reducible repeat (first | refine blk_drewN ?_ _ | refine blk_drew ?_ | refine blk_alloc ?_ _)); refine blk_put (cs := #[.int .u32 t203, .int .u32 t204, .int .i64 0, .slice none 0 0, .slice none 0 0]) ?_ 2 _ (by first | rfl | (simp; done)); (with_reducible repeat (first | refine blk_drewN ?_ _ | refine blk_drew ?_ | refine blk_alloc ?_ _)); refine blk_put (cs := #[.int .u32 t203, .int .u32 0, .int .i64 0, .slice none 0 0, .slice none 0 0]) ?_ 1 _ (by first | rfl | (simp; done)); (with_reducible repeat (first | refine blk_drewN ?_ _ | refine blk_drew ?_ | refine blk_alloc ?_ _)); refine blk_put (cs := #[.int .u32 0, .int .u32 0, .int .i64 0, .slice none 0 0, .slice none 0 0]) ?_ 0 _ (by first | rfl | (simp; done)); (with_reducible repeat (first | refine blk_drewN ?_ _ | refine blk_drew ?_ | refine blk_alloc ?_ _)); exact BK202.out) Try.underlying33 rfl (by kernel_rfl)) rfl ?_
                exact ⟨_, _, by first | rfl | (simp [errW_none, errW_some] <;> rfl) | (simp [*, errW_none, errW_some] <;> rfl), by first | exact Kd.R_nil _ _ _ _ _ | exact Kd.N_nil _ _ _ _ _ | exact Kd.V_nil _ _ _ _ _ | exact Kd.Q_nil _ _ _ _ _ | exact Kd.S_nil _ _ _ _ _, by (with_reducible repeat (first | apply Kd.R_alloc | apply Kd.R_drewN | apply Kd.R_drew)); exact Kd.R_mono (Kd.R_far (p := ⟨gb202, 4, none⟩) (Kd.R_far (p := ⟨gb202, 3, none⟩) (Kd.R_far (p := ⟨gb202, 2, none⟩) (Kd.R_far (p := ⟨gb202, 1, none⟩) (Kd.R_far (p := ⟨gb202, 0, none⟩) (Kd.R_mono HO_207004.out (fun k_ hk => (⟨hk, hk.1⟩ : _ ∧ k_ ≠ gb202))) (fun _ hk => hk.2) (.int .u32 t203)) (fun _ hk => hk.2) (.int .u32 t204)) (fun _ hk => hk.2) (.int .i64 t205)) (fun _ hk => hk.2) (.slice none 0 0)) (fun _ hk => hk.2) (.slice Ao60 x207004_2.length co60)) (fun _ hk => (by simp [Value.ownBlock])), by repeat (first | (with_reducible first | exact HB.out | apply below_alloc | apply pw_below_drewN | apply below_drew1 | refine below_set ?_ GE202.out | refine below_set ?_ GE206.out) | exact HB.out)⟩

end Go.Proofs.Ytojmfbdioaocpaa.P

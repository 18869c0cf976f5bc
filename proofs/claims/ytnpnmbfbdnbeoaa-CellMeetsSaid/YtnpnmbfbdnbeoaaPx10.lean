-- Laid by a program of this session: the walk of functions of the translation, for this claim.
import Derived.Test.YtnpnmbfbdnbeoaaPx0
import Derived.Test.YtnpnmbfbdnbeoaaPx1
import Derived.Test.YtnpnmbfbdnbeoaaPx2
import Derived.Test.YtnpnmbfbdnbeoaaPx3
import Derived.Test.YtnpnmbfbdnbeoaaPx4
namespace Go.Proofs.Ytnpnmbfbdnbeoaa.P
open Go.RowKit Go.Proofs.YtnpnmbfbdnbeoaaOwn Go.Proofs.YtnpnmbfbdnbeoaaW.PrintWords Go.Proofs.YtnpnmbfbdnbeoaaW.PrintLast Go.Proofs.YtnpnmbfbdnbeoaaW.PrintMore
attribute [local go_sem] max2_int min2_int max_two min_two max_three min_three max_four min_four   -- for this text's walks alone
set_option linter.unusedVariables false
set_option linter.unusedSimpArgs false

attribute [local go_sem high] eqA24
/-! ### sphragislaw08_CellMeets: function 5 -/
mutual
def sphragislaw08_CellMeets.j0 : Nat → Int → Int → Int → Int → Bool → Int → Int → Bool → Int → Int → Int → Int → Int → Int → Option (Bool)
  | 0, _, _, _, _, _, _, _, _, _, _, _, _, _, _ => none
  | k + 1, x0, x1, x2, x3, x9, x11, x13, x48, x185000, x185001, x185002, x190000, x190001, x190002 => if x48 = true then (if x9 = true then (if x11 = 2 then (some (x13 == 2)) else (some false)) else (some false)) else (if x11 = 0 then (if x13 = 0 then (if (!(x185000 == x190000) || (!(x185001 == x190001) || (!(x185002 == x190002)))) = true then (sphragislaw08_CellMeets.j1 k x0 x1 x2 x3 x9 true x185000 x185001 x185002) else ((cell_Has.f x185000 x185001 x185002 x0 x1).bind fun t190 => (if t190 = true then ((cell_Has.f x185000 x185001 x185002 x2 x3).bind fun t191 => (sphragislaw08_CellMeets.j1 k x0 x1 x2 x3 x9 (!t191) x185000 x185001 x185002)) else (sphragislaw08_CellMeets.j1 k x0 x1 x2 x3 x9 true x185000 x185001 x185002)))) else (sphragislaw08_CellMeets.j1 k x0 x1 x2 x3 x9 true x185000 x185001 x185002)) else (sphragislaw08_CellMeets.j1 k x0 x1 x2 x3 x9 true x185000 x185001 x185002))
def sphragislaw08_CellMeets.j1 : Nat → Int → Int → Int → Int → Bool → Bool → Int → Int → Int → Option (Bool)
  | 0, _, _, _, _, _, _, _, _, _ => none
  | k + 1, x0, x1, x2, x3, x9, x82, x185000, x185001, x185002 => if x82 = true then (some false) else (if x0 = x2 then (sphragislaw08_CellMeets.j2 k x0 x1 x2 x3 x9 (x1 == x3) x185000 x185001 x185002) else (sphragislaw08_CellMeets.j2 k x0 x1 x2 x3 x9 false x185000 x185001 x185002))
def sphragislaw08_CellMeets.j2 : Nat → Int → Int → Int → Int → Bool → Bool → Int → Int → Int → Option (Bool)
  | 0, _, _, _, _, _, _, _, _, _ => none
  | k + 1, x0, x1, x2, x3, x9, x90, x185000, x185001, x185002 => if x90 = true then (if x9 = true then (some (x185002 == 0)) else (some false)) else ((cell_Where.f x185000 x185001 x185002 x0 x1).bind fun bt192 => ((cell_Where.f x185000 x185001 x185002 x2 x3).bind fun bt194 => (if x9 = true then (if bt192.2 = 0 then (if bt194.2 = 0 then (some (bt192.1 != bt194.1)) else (some false)) else (some false)) else (some false))))
end
def sphragislaw08_CellMeets.f (k : Nat) (a0 : Int) (a1 : Int) (a2 : Int) (a3 : Int) : Option (Bool) := (sphragislaw08_shown.f k).bind fun t179 => ((cell_Least.f a0 a1 a2 a3).bind fun bt180 => ((cell_Least.f a2 a3 a0 a1).bind fun bt185 => (if a0 ≥ 2147483648 then (sphragislaw08_CellMeets.j0 k a0 a1 a2 a3 t179 bt180.2.2.2 bt185.2.2.2 true bt180.1 bt180.2.1 bt180.2.2.1 bt185.1 bt185.2.1 bt185.2.2.1) else (if a1 ≥ 2147483648 then (sphragislaw08_CellMeets.j0 k a0 a1 a2 a3 t179 bt180.2.2.2 bt185.2.2.2 true bt180.1 bt180.2.1 bt180.2.2.1 bt185.1 bt185.2.1 bt185.2.2.1) else (if a2 ≥ 2147483648 then (sphragislaw08_CellMeets.j0 k a0 a1 a2 a3 t179 bt180.2.2.2 bt185.2.2.2 true bt180.1 bt180.2.1 bt180.2.2.1 bt185.1 bt185.2.1 bt185.2.2.1) else (sphragislaw08_CellMeets.j0 k a0 a1 a2 a3 t179 bt180.2.2.2 bt185.2.2.2 (decide (a3 ≥ 2147483648)) bt180.1 bt180.2.1 bt180.2.2.1 bt185.1 bt185.2.1 bt185.2.2.1))))))
theorem sphragislaw08_CellMeets.mono_l : ∀ k, (∀ y0 y1 y2 y3 y4 y5 y6 y7 y8 y9 y10 y11 y12 y13, LeO (sphragislaw08_CellMeets.j0 k y0 y1 y2 y3 y4 y5 y6 y7 y8 y9 y10 y11 y12 y13) (sphragislaw08_CellMeets.j0 (k + 1) y0 y1 y2 y3 y4 y5 y6 y7 y8 y9 y10 y11 y12 y13)) ∧ (∀ y0 y1 y2 y3 y4 y5 y6 y7 y8, LeO (sphragislaw08_CellMeets.j1 k y0 y1 y2 y3 y4 y5 y6 y7 y8) (sphragislaw08_CellMeets.j1 (k + 1) y0 y1 y2 y3 y4 y5 y6 y7 y8)) ∧ (∀ y0 y1 y2 y3 y4 y5 y6 y7 y8, LeO (sphragislaw08_CellMeets.j2 k y0 y1 y2 y3 y4 y5 y6 y7 y8) (sphragislaw08_CellMeets.j2 (k + 1) y0 y1 y2 y3 y4 y5 y6 y7 y8))
  | 0 => ⟨fun _ _ _ _ _ _ _ _ _ _ _ _ _ _ r h => by simp [sphragislaw08_CellMeets.j0] at h, fun _ _ _ _ _ _ _ _ _ r h => by simp [sphragislaw08_CellMeets.j1] at h, fun _ _ _ _ _ _ _ _ _ r h => by simp [sphragislaw08_CellMeets.j2] at h⟩
  | k + 1 => by
    obtain ⟨ih0, ih1, ih2⟩ := sphragislaw08_CellMeets.mono_l k
    refine ⟨?_, ?_, ?_⟩
    · intro y0 y1 y2 y3 y4 y5 y6 y7 y8 y9 y10 y11 y12 y13
      unfold sphragislaw08_CellMeets.j0
      repeat' first
      | (with_reducible exact ih0 _ _ _ _ _ _ _ _ _ _ _ _ _ _)
      | (with_reducible exact ih1 _ _ _ _ _ _ _ _ _)
      | (with_reducible exact ih2 _ _ _ _ _ _ _ _ _)
      | (with_reducible exact sphragislaw08_shown.mono _)
      | (with_reducible exact LeO.refl _)
      | (with_reducible exact LeO.none _)
      | (with_reducible refine LeO.ite ?_ ?_)
      | (with_reducible refine LeO.bind ?_ (fun _ => ?_))
      | exact ih0 _ _ _ _ _ _ _ _ _ _ _ _ _ _
      | exact ih1 _ _ _ _ _ _ _ _ _
      | exact ih2 _ _ _ _ _ _ _ _ _
      | exact sphragislaw08_shown.mono _
      | exact LeO.none _
      | refine LeO.ite ?_ ?_
      | refine LeO.bind ?_ (fun _ => ?_)
    · intro y0 y1 y2 y3 y4 y5 y6 y7 y8
      unfold sphragislaw08_CellMeets.j1
      repeat' first
      | (with_reducible exact ih0 _ _ _ _ _ _ _ _ _ _ _ _ _ _)
      | (with_reducible exact ih1 _ _ _ _ _ _ _ _ _)
      | (with_reducible exact ih2 _ _ _ _ _ _ _ _ _)
      | (with_reducible exact sphragislaw08_shown.mono _)
      | (with_reducible exact LeO.refl _)
      | (with_reducible exact LeO.none _)
      | (with_reducible refine LeO.ite ?_ ?_)
      | (with_reducible refine LeO.bind ?_ (fun _ => ?_))
      | exact ih0 _ _ _ _ _ _ _ _ _ _ _ _ _ _
      | exact ih1 _ _ _ _ _ _ _ _ _
      | exact ih2 _ _ _ _ _ _ _ _ _
      | exact sphragislaw08_shown.mono _
      | exact LeO.none _
      | refine LeO.ite ?_ ?_
      | refine LeO.bind ?_ (fun _ => ?_)
    · intro y0 y1 y2 y3 y4 y5 y6 y7 y8
      unfold sphragislaw08_CellMeets.j2
      repeat' first
      | (with_reducible exact ih0 _ _ _ _ _ _ _ _ _ _ _ _ _ _)
      | (with_reducible exact ih1 _ _ _ _ _ _ _ _ _)
      | (with_reducible exact ih2 _ _ _ _ _ _ _ _ _)
      | (with_reducible exact sphragislaw08_shown.mono _)
      | (with_reducible exact LeO.refl _)
      | (with_reducible exact LeO.none _)
      | (with_reducible refine LeO.ite ?_ ?_)
      | (with_reducible refine LeO.bind ?_ (fun _ => ?_))
      | exact ih0 _ _ _ _ _ _ _ _ _ _ _ _ _ _
      | exact ih1 _ _ _ _ _ _ _ _ _
      | exact ih2 _ _ _ _ _ _ _ _ _
      | exact sphragislaw08_shown.mono _
      | exact LeO.none _
      | refine LeO.ite ?_ ?_
      | refine LeO.bind ?_ (fun _ => ?_)
theorem sphragislaw08_CellMeets.mono : ∀ a0 a1 a2 a3 k, LeO (sphragislaw08_CellMeets.f k a0 a1 a2 a3) (sphragislaw08_CellMeets.f (k + 1) a0 a1 a2 a3) := by
  intro a0 a1 a2 a3 k
  obtain ⟨ih0, ih1, ih2⟩ := sphragislaw08_CellMeets.mono_l k
  unfold sphragislaw08_CellMeets.f
  repeat' first
      | (with_reducible exact ih0 _ _ _ _ _ _ _ _ _ _ _ _ _ _)
      | (with_reducible exact ih1 _ _ _ _ _ _ _ _ _)
      | (with_reducible exact ih2 _ _ _ _ _ _ _ _ _)
      | (with_reducible exact sphragislaw08_shown.mono _)
      | (with_reducible exact LeO.refl _)
      | (with_reducible exact LeO.none _)
      | (with_reducible refine LeO.ite ?_ ?_)
      | (with_reducible refine LeO.bind ?_ (fun _ => ?_))
      | exact ih0 _ _ _ _ _ _ _ _ _ _ _ _ _ _
      | exact ih1 _ _ _ _ _ _ _ _ _
      | exact ih2 _ _ _ _ _ _ _ _ _
      | exact sphragislaw08_shown.mono _
      | exact LeO.none _
      | refine LeO.ite ?_ ?_
      | refine LeO.bind ?_ (fun _ => ?_)
set_option maxHeartbeats 8000000 in
set_option maxRecDepth 100000 in
theorem sphragislaw08_CellMeets.calls (k : Nat) (a0 : Int) (a1 : Int) (a2 : Int) (a3 : Int) (r : Bool) (w : World) (h : sphragislaw08_CellMeets.f k a0 a1 a2 a3 = some r) :
    Calls Try.prog 5 #[.int .u32 a0, .int .u32 a1, .int .u32 a2, .int .u32 a3] w fun e w' => e = .returned (.bool r) ∧ Below w.heap.size w w' := by
  have hu24 := Try.underlying24
  have HB := Aside0.mk (Below.refl w.heap.size w)
  have H : ((sphragislaw08_shown.f k).bind fun t179 => ((cell_Least.f a0 a1 a2 a3).bind fun bt180 => ((cell_Least.f a2 a3 a0 a1).bind fun bt185 => (if a0 ≥ 2147483648 then (sphragislaw08_CellMeets.j0 k a0 a1 a2 a3 t179 bt180.2.2.2 bt185.2.2.2 true bt180.1 bt180.2.1 bt180.2.2.1 bt185.1 bt185.2.1 bt185.2.2.1) else (if a1 ≥ 2147483648 then (sphragislaw08_CellMeets.j0 k a0 a1 a2 a3 t179 bt180.2.2.2 bt185.2.2.2 true bt180.1 bt180.2.1 bt180.2.2.1 bt185.1 bt185.2.1 bt185.2.2.1) else (if a2 ≥ 2147483648 then (sphragislaw08_CellMeets.j0 k a0 a1 a2 a3 t179 bt180.2.2.2 bt185.2.2.2 true bt180.1 bt180.2.1 bt180.2.2.1 bt185.1 bt185.2.1 bt185.2.2.1) else (sphragislaw08_CellMeets.j0 k a0 a1 a2 a3 t179 bt180.2.2.2 bt185.2.2.2 (decide (a3 ≥ 2147483648)) bt180.1 bt180.2.1 bt180.2.2.1 bt185.1 bt185.2.1 bt185.2.2.1))))))) = some r := h
  clear h
  replace H := Option.bind_eq_some_iff.mp H
  obtain ⟨t179, A50, H⟩ := H
  replace H : ((cell_Least.f a0 a1 a2 a3).bind fun bt180 => ((cell_Least.f a2 a3 a0 a1).bind fun bt185 => (if a0 ≥ 2147483648 then (sphragislaw08_CellMeets.j0 k a0 a1 a2 a3 t179 bt180.2.2.2 bt185.2.2.2 true bt180.1 bt180.2.1 bt180.2.2.1 bt185.1 bt185.2.1 bt185.2.2.1) else (if a1 ≥ 2147483648 then (sphragislaw08_CellMeets.j0 k a0 a1 a2 a3 t179 bt180.2.2.2 bt185.2.2.2 true bt180.1 bt180.2.1 bt180.2.2.1 bt185.1 bt185.2.1 bt185.2.2.1) else (if a2 ≥ 2147483648 then (sphragislaw08_CellMeets.j0 k a0 a1 a2 a3 t179 bt180.2.2.2 bt185.2.2.2 true bt180.1 bt180.2.1 bt180.2.2.1 bt185.1 bt185.2.1 bt185.2.2.1) else (sphragislaw08_CellMeets.j0 k a0 a1 a2 a3 t179 bt180.2.2.2 bt185.2.2.2 (decide (a3 ≥ 2147483648)) bt180.1 bt180.2.1 bt180.2.2.1 bt185.1 bt185.2.1 bt185.2.2.1)))))) = some r := H
  have A5 := Aside0.mk A50
  clear A50
  replace H := Option.bind_eq_some_iff.mp H
  obtain ⟨⟨t180, t181, t182, t183⟩, A60, H⟩ := H
  replace H : ((cell_Least.f a2 a3 a0 a1).bind fun bt185 => (if a0 ≥ 2147483648 then (sphragislaw08_CellMeets.j0 k a0 a1 a2 a3 t179 t183 bt185.2.2.2 true t180 t181 t182 bt185.1 bt185.2.1 bt185.2.2.1) else (if a1 ≥ 2147483648 then (sphragislaw08_CellMeets.j0 k a0 a1 a2 a3 t179 t183 bt185.2.2.2 true t180 t181 t182 bt185.1 bt185.2.1 bt185.2.2.1) else (if a2 ≥ 2147483648 then (sphragislaw08_CellMeets.j0 k a0 a1 a2 a3 t179 t183 bt185.2.2.2 true t180 t181 t182 bt185.1 bt185.2.1 bt185.2.2.1) else (sphragislaw08_CellMeets.j0 k a0 a1 a2 a3 t179 t183 bt185.2.2.2 (decide (a3 ≥ 2147483648)) t180 t181 t182 bt185.1 bt185.2.1 bt185.2.2.1))))) = some r := H
  have A6 := Aside0.mk A60
  clear A60
  replace H := Option.bind_eq_some_iff.mp H
  obtain ⟨⟨t185, t186, t187, t188⟩, A70, H⟩ := H
  replace H : (if a0 ≥ 2147483648 then (sphragislaw08_CellMeets.j0 k a0 a1 a2 a3 t179 t183 t188 true t180 t181 t182 t185 t186 t187) else (if a1 ≥ 2147483648 then (sphragislaw08_CellMeets.j0 k a0 a1 a2 a3 t179 t183 t188 true t180 t181 t182 t185 t186 t187) else (if a2 ≥ 2147483648 then (sphragislaw08_CellMeets.j0 k a0 a1 a2 a3 t179 t183 t188 true t180 t181 t182 t185 t186 t187) else (sphragislaw08_CellMeets.j0 k a0 a1 a2 a3 t179 t183 t188 (decide (a3 ≥ 2147483648)) t180 t181 t182 t185 t186 t187)))) = some r := H
  have A7 := Aside0.mk A70
  clear A70
  have HC8 := Aside0.mk H
  clear H
  go_enter Try.func5, Try.ntmps5
  go_upto_region 4 with (first | ((with_reducible refine gate_callee (f := 12) rfl ?_); refine goesL_ (some 18) rfl rfl Try.func12 (by kernel_rfl) rfl #[] rfl (by (try simp only [List.map_toArray, List.map_cons, List.map_nil]); first | done | rfl | (simp only [List.length_drop, List.length_take]; rfl)) ?_; (with_reducible refine (sphragislaw08_shown.calls k  t179 _ A5.out).mono ?_); rintro e w9 ⟨rfl, hb⟩; refine ⟨_, rfl, ?_⟩; have n0_ := Aside0.mk (below_step (by repeat (first | (with_reducible first | exact HB.out | apply below_alloc | apply pw_below_drewN | apply below_drew1) | exact HB.out)) hb); clear HB; have HB := n0_; clear n0_; (try clear hb); (try clear hb2); (try clear hk); (try clear hi)) | ((with_reducible refine gate_callee (f := 21) rfl ?_); refine goesL_ (some 24) rfl rfl Try.func21 (by kernel_rfl) rfl #[.int .u32 a0, .int .u32 a1, .int .u32 a2, .int .u32 a3] rfl (by (try simp only [List.map_toArray, List.map_cons, List.map_nil]); first | done | rfl | (simp only [List.length_drop, List.length_take]; rfl)) ?_; (with_reducible refine (cell_Least.calls a0 a1 a2 a3 t180 t181 t182 t183 _ A6.out).mono ?_); rintro e w10 ⟨rfl, hb⟩; refine ⟨_, rfl, ?_⟩; have n0_ := Aside0.mk (below_step (by repeat (first | (with_reducible first | exact HB.out | apply below_alloc | apply pw_below_drewN | apply below_drew1) | exact HB.out)) hb); clear HB; have HB := n0_; clear n0_; (try clear hb); (try clear hb2); (try clear hk); (try clear hi)) | ((with_reducible refine gate_dst (N := 10) rfl ?_); refine box_event ?hg (N := 10) ?hd (cs := #[.int .u32 0, .int .u32 0, .int .i64 0]) (t := 24) ?hr ?_; (case hd => rfl); (case hg => rfl); (case hr => first | (go_simp; done) | (go_simp; rfl)); intro gb184 hg w11 hbox hb; have n0_ := Aside0.mk (below_step (by repeat (first | (with_reducible first | exact HB.out | apply below_alloc | apply pw_below_drewN | apply below_drew1) | exact HB.out)) hb); have n1_ := Aside0.mk (hbox); have n2_ := Aside0.mk ((by rw [hg]; exact (below_size (by repeat (first | (with_reducible first | exact HB.out | apply below_alloc | apply pw_below_drewN | apply below_drew1) | exact HB.out))) : w.heap.size ≤ gb184)); have n3_ := Aside0.mk ((by rw [hg]; exact (below_size (by repeat (first | (with_reducible first | exact HB.out | apply below_alloc | apply pw_below_drewN | apply below_drew1) | exact HB.out))) : w.heap.size ≤ gb184)); clear HB; have HB := n0_; have BK184 := n1_; have GW184 := n2_; have GE184 := n3_; clear n0_ n1_ n2_ n3_; clear hb hbox hg; have hcz12_0 : w11.cell? ⟨gb184, 0, none⟩ = some (.int .u32 0) := (blk_cell BK184.out 0).trans rfl; have hcz12_1 : w11.cell? ⟨gb184, 1, none⟩ = some (.int .u32 0) := (blk_cell BK184.out 1).trans rfl; have hcz12_2 : w11.cell? ⟨gb184, 2, none⟩ = some (.int .i64 0) := (blk_cell BK184.out 2).trans rfl; have hfz12_0 := blk_frozen BK184.out 0; have hfz12_1 := blk_frozen BK184.out 1; have hfz12_2 := blk_frozen BK184.out 2) | ((with_reducible refine gate_callee (f := 21) rfl ?_); refine goesL_ (some 32) rfl rfl Try.func21 (by kernel_rfl) rfl #[.int .u32 a2, .int .u32 a3, .int .u32 a0, .int .u32 a1] rfl (by (try simp only [List.map_toArray, List.map_cons, List.map_nil]); first | done | rfl | (simp only [List.length_drop, List.length_take]; rfl)) ?_; (with_reducible refine (cell_Least.calls a2 a3 a0 a1 t185 t186 t187 t188 _ A7.out).mono ?_); rintro e w13 ⟨rfl, hb⟩; refine ⟨_, rfl, ?_⟩; have n0_ := Aside0.mk (blk_below (g := gb184) (o := .cells #[.int .u32 t180, .int .u32 t181, .int .i64 t182] 24 (0, 0)) (by (with_reducible repeat (first | refine blk_drewN ?_ _ | refine blk_drew ?_ | refine blk_alloc ?_ _)); refine blk_put (cs := #[.int .u32 t180, .int .u32 t181, .int .i64 0]) ?_ 2 _ (by first | rfl | (simp; done)); (with_reducible repeat (first | refine blk_drewN ?_ _ | refine blk_drew ?_ | refine blk_alloc ?_ _)); refine blk_put (cs := #[.int .u32 t180, .int .u32 0, .int .i64 0]) ?_ 1 _ (by first | rfl | (simp; done)); (with_reducible repeat (first | refine blk_drewN ?_ _ | refine blk_drew ?_ | refine blk_alloc ?_ _)); refine blk_put (cs := #[.int .u32 0, .int .u32 0, .int .i64 0]) ?_ 0 _ (by first | rfl | (simp; done)); (with_reducible repeat (first | refine blk_drewN ?_ _ | refine blk_drew ?_ | refine blk_alloc ?_ _)); exact BK184.out) hb); have n1_ := Aside0.mk (below_step (by repeat (first | (with_reducible first | exact HB.out | apply below_alloc | apply pw_below_drewN | apply below_drew1 | refine below_set ?_ GE184.out) | exact HB.out)) hb); clear BK184; clear HB; have BK184 := n0_; have HB := n1_; clear n0_ n1_; (try clear hb); (try clear hb2); (try clear hk); (try clear hi)) | ((with_reducible refine gate_dst (N := 12) rfl ?_); refine box_event ?hg (N := 12) ?hd (cs := #[.int .u32 0, .int .u32 0, .int .i64 0]) (t := 24) ?hr ?_; (case hd => rfl); (case hg => rfl); (case hr => first | (go_simp; done) | (go_simp; rfl)); intro gb189 hg w14 hbox hb; have n0_ := Aside0.mk (blk_below (g := gb184) (o := .cells #[.int .u32 t180, .int .u32 t181, .int .i64 t182] 24 (0, 0)) (by (with_reducible repeat (first | refine blk_drewN ?_ _ | refine blk_drew ?_ | refine blk_alloc ?_ _)); exact BK184.out) hb); have n1_ := Aside0.mk (below_step (by repeat (first | (with_reducible first | exact HB.out | apply below_alloc | apply pw_below_drewN | apply below_drew1 | refine below_set ?_ GE184.out) | exact HB.out)) hb); have n2_ := Aside0.mk (hbox); have n3_ := Aside0.mk ((by rw [hg]; exact (below_size (by repeat (first | (with_reducible first | exact HB.out | apply below_alloc | apply pw_below_drewN | apply below_drew1 | refine below_set ?_ GE184.out) | exact HB.out))) : w.heap.size ≤ gb189)); have n4_ := Aside0.mk ((by rw [hg]; exact (below_size (by repeat (first | (with_reducible first | exact HB.out | apply below_alloc | apply pw_below_drewN | apply below_drew1 | refine below_set ?_ GE184.out) | exact HB.out))) : w.heap.size ≤ gb189)); have n5_ := Aside0.mk ((by rw [hg]; exact Nat.ne_of_lt (blk_lt (g := gb184) (o := .cells #[.int .u32 t180, .int .u32 t181, .int .i64 t182] 24 (0, 0)) (by (with_reducible repeat (first | refine blk_drewN ?_ _ | refine blk_drew ?_ | refine blk_alloc ?_ _)); exact BK184.out)) : gb184 ≠ gb189)); have n6_ := Aside0.mk ((by rw [hg]; exact Nat.ne_of_gt (blk_lt (g := gb184) (o := .cells #[.int .u32 t180, .int .u32 t181, .int .i64 t182] 24 (0, 0)) (by (with_reducible repeat (first | refine blk_drewN ?_ _ | refine blk_drew ?_ | refine blk_alloc ?_ _)); exact BK184.out)) : gb189 ≠ gb184)); clear BK184; clear HB; have BK184 := n0_; have HB := n1_; have BK189 := n2_; have GW189 := n3_; have GE189 := n4_; have NB184_189 := n5_; have NB189_184 := n6_; clear n0_ n1_ n2_ n3_ n4_ n5_ n6_; clear hb hbox hg; have hnb15 := NB189_184.out; have hnc15 := NB184_189.out; have hcz16_0 : w14.cell? ⟨gb189, 0, none⟩ = some (.int .u32 0) := (blk_cell BK189.out 0).trans rfl; have hcz16_1 : w14.cell? ⟨gb189, 1, none⟩ = some (.int .u32 0) := (blk_cell BK189.out 1).trans rfl; have hcz16_2 : w14.cell? ⟨gb189, 2, none⟩ = some (.int .i64 0) := (blk_cell BK189.out 2).trans rfl; have hfz16_0 := blk_frozen BK189.out 0; have hfz16_1 := blk_frozen BK189.out 1; have hfz16_2 := blk_frozen BK189.out 2))
  (try simp only [Act.put, List.setIfInBounds_toArray, List.set_cons_zero, List.set_cons_succ])
  go_cut [48] (fun v48 wc => ∃ (kq : Nat) (x48_7 : Bool), v48 = .bool x48_7 ∧ Aside0 (sphragislaw08_CellMeets.j0 kq a0 a1 a2 a3 t179 t183 t188 x48_7 t180 t181 t182 t185 t186 t187 = some r) ∧ Aside0 (kq ≤ k) ∧ Aside0 (wc.heap[gb184]? = some (.cells #[.int .u32 t180, .int .u32 t181, .int .i64 t182] 24 (0, 0))) ∧ Aside0 (wc.heap[gb189]? = some (.cells #[.int .u32 t185, .int .u32 t186, .int .i64 t187] 24 (0, 0))) ∧ Aside0 (Below w.heap.size w wc))
  case first =>
    have H := HC8.out
    clear HC8
    by_cases c17 : a0 ≥ 2147483648
    · rw [if_pos c17] at H
      have c17b0 : decide (2147483648 ≤ a0) = true := decide_eq_true c17
      clear c17
      (first | rw [c17b0] | (simp only [i64_w, i32_w]; rw [c17b0]) | skip)
      have H' := Aside0.mk H
      clear H
      go_wp2
      go_meet
      case rel => exact ⟨_, (true), (by first | rfl | (simp; done) | (simp [*]; done)), H', ⟨by first | omega | exact Nat.le_refl _⟩, ⟨by (with_reducible repeat (first | refine blk_drewN ?_ _ | refine blk_drew ?_ | refine blk_alloc ?_ _)); refine blk_far ?_ NB184_189.out _; (with_reducible repeat (first | refine blk_drewN ?_ _ | refine blk_drew ?_ | refine blk_alloc ?_ _)); refine blk_far ?_ NB184_189.out _; (with_reducible repeat (first | refine blk_drewN ?_ _ | refine blk_drew ?_ | refine blk_alloc ?_ _)); refine blk_far ?_ NB184_189.out _; (with_reducible repeat (first | refine blk_drewN ?_ _ | refine blk_drew ?_ | refine blk_alloc ?_ _)); exact BK184.out⟩, ⟨by (with_reducible repeat (first | refine blk_drewN ?_ _ | refine blk_drew ?_ | refine blk_alloc ?_ _)); refine blk_put (cs := #[.int .u32 t185, .int .u32 t186, .int .i64 0]) ?_ 2 _ (by first | rfl | (simp; done)); (with_reducible repeat (first | refine blk_drewN ?_ _ | refine blk_drew ?_ | refine blk_alloc ?_ _)); refine blk_put (cs := #[.int .u32 t185, .int .u32 0, .int .i64 0]) ?_ 1 _ (by first | rfl | (simp; done)); (with_reducible repeat (first | refine blk_drewN ?_ _ | refine blk_drew ?_ | refine blk_alloc ?_ _)); refine blk_put (cs := #[.int .u32 0, .int .u32 0, .int .i64 0]) ?_ 0 _ (by first | rfl | (simp; done)); (with_reducible repeat (first | refine blk_drewN ?_ _ | refine blk_drew ?_ | refine blk_alloc ?_ _)); exact BK189.out⟩, ⟨by repeat (first | (with_reducible first | exact HB.out | apply below_alloc | apply pw_below_drewN | apply below_drew1 | refine below_set ?_ GE184.out | refine below_set ?_ GE189.out) | exact HB.out)⟩⟩
    · rw [if_neg c17] at H
      have c17b0 : decide (2147483648 ≤ a0) = false := decide_eq_false c17
      clear c17
      (first | rw [c17b0] | (simp only [i64_w, i32_w]; rw [c17b0]) | skip)
      by_cases c18 : a1 ≥ 2147483648
      · rw [if_pos c18] at H
        have c18b0 : decide (2147483648 ≤ a1) = true := decide_eq_true c18
        clear c18
        have H' := Aside0.mk H
        clear H
        go_wp2
        go_meet
        case rel => exact ⟨_, (true), (by first | rfl | (simp; done) | (simp [*]; done)), H', ⟨by first | omega | exact Nat.le_refl _⟩, ⟨by (with_reducible repeat (first | refine blk_drewN ?_ _ | refine blk_drew ?_ | refine blk_alloc ?_ _)); refine blk_far ?_ NB184_189.out _; (with_reducible repeat (first | refine blk_drewN ?_ _ | refine blk_drew ?_ | refine blk_alloc ?_ _)); refine blk_far ?_ NB184_189.out _; (with_reducible repeat (first | refine blk_drewN ?_ _ | refine blk_drew ?_ | refine blk_alloc ?_ _)); refine blk_far ?_ NB184_189.out _; (with_reducible repeat (first | refine blk_drewN ?_ _ | refine blk_drew ?_ | refine blk_alloc ?_ _)); exact BK184.out⟩, ⟨by (with_reducible repeat (first | refine blk_drewN ?_ _ | refine blk_drew ?_ | refine blk_alloc ?_ _)); refine blk_put (cs := #[.int .u32 t185, .int .u32 t186, .int .i64 0]) ?_ 2 _ (by first | rfl | (simp; done)); (with_reducible repeat (first | refine blk_drewN ?_ _ | refine blk_drew ?_ | refine blk_alloc ?_ _)); refine blk_put (cs := #[.int .u32 t185, .int .u32 0, .int .i64 0]) ?_ 1 _ (by first | rfl | (simp; done)); (with_reducible repeat (first | refine blk_drewN ?_ _ | refine blk_drew ?_ | refine blk_alloc ?_ _)); refine blk_put (cs := #[.int .u32 0, .int .u32 0, .int .i64 0]) ?_ 0 _ (by first | rfl | (simp; done)); (with_reducible repeat (first | refine blk_drewN ?_ _ | refine blk_drew ?_ | refine blk_alloc ?_ _)); exact BK189.out⟩, ⟨by repeat (first | (with_reducible first | exact HB.out | apply below_alloc | apply pw_below_drewN | apply below_drew1 | refine below_set ?_ GE184.out | refine below_set ?_ GE189.out) | exact HB.out)⟩⟩
      · rw [if_neg c18] at H
        have c18b0 : decide (2147483648 ≤ a1) = false := decide_eq_false c18
        clear c18
        by_cases c19 : a2 ≥ 2147483648
        · rw [if_pos c19] at H
          have c19b0 : decide (2147483648 ≤ a2) = true := decide_eq_true c19
          clear c19
          have H' := Aside0.mk H
          clear H
          go_wp2
          go_meet
          case rel => exact ⟨_, (true), (by first | rfl | (simp; done) | (simp [*]; done)), H', ⟨by first | omega | exact Nat.le_refl _⟩, ⟨by (with_reducible repeat (first | refine blk_drewN ?_ _ | refine blk_drew ?_ | refine blk_alloc ?_ _)); refine blk_far ?_ NB184_189.out _; (with_reducible repeat (first | refine blk_drewN ?_ _ | refine blk_drew ?_ | refine blk_alloc ?_ _)); refine blk_far ?_ NB184_189.out _; (with_reducible repeat (first | refine blk_drewN ?_ _ | refine blk_drew ?_ | refine blk_alloc ?_ _)); refine blk_far ?_ NB184_189.out _; (with_reducible repeat (first | refine blk_drewN ?_ _ | refine blk_drew ?_ | refine blk_alloc ?_ _)); exact BK184.out⟩, ⟨by (with_reducible repeat (first | refine blk_drewN ?_ _ | refine blk_drew ?_ | refine blk_alloc ?_ _)); refine blk_put (cs := #[.int .u32 t185, .int .u32 t186, .int .i64 0]) ?_ 2 _ (by first | rfl | (simp; done)); (with_reducible repeat (first | refine blk_drewN ?_ _ | refine blk_drew ?_ | refine blk_alloc ?_ _)); refine blk_put (cs := #[.int .u32 t185, .int .u32 0, .int .i64 0]) ?_ 1 _ (by first | rfl | (simp; done)); (with_reducible repeat (first | refine blk_drewN ?_ _ | refine blk_drew ?_ | refine blk_alloc ?_ _)); refine blk_put (cs := #[.int .u32 0, .int .u32 0, .int .i64 0]) ?_ 0 _ (by first | rfl | (simp; done)); (with_reducible repeat (first | refine blk_drewN ?_ _ | refine blk_drew ?_ | refine blk_alloc ?_ _)); exact BK189.out⟩, ⟨by repeat (first | (with_reducible first | exact HB.out | apply below_alloc | apply pw_below_drewN | apply below_drew1 | refine below_set ?_ GE184.out | refine below_set ?_ GE189.out) | exact HB.out)⟩⟩
        · rw [if_neg c19] at H
          have c19b0 : decide (2147483648 ≤ a2) = false := decide_eq_false c19
          clear c19
          have H' := Aside0.mk H
          clear H
          go_wp2
          go_meet
          case rel => exact ⟨_, (decide (a3 ≥ 2147483648)), (by first | rfl | (simp; done) | (simp [*]; done)), H', ⟨by first | omega | exact Nat.le_refl _⟩, ⟨by (with_reducible repeat (first | refine blk_drewN ?_ _ | refine blk_drew ?_ | refine blk_alloc ?_ _)); refine blk_far ?_ NB184_189.out _; (with_reducible repeat (first | refine blk_drewN ?_ _ | refine blk_drew ?_ | refine blk_alloc ?_ _)); refine blk_far ?_ NB184_189.out _; (with_reducible repeat (first | refine blk_drewN ?_ _ | refine blk_drew ?_ | refine blk_alloc ?_ _)); refine blk_far ?_ NB184_189.out _; (with_reducible repeat (first | refine blk_drewN ?_ _ | refine blk_drew ?_ | refine blk_alloc ?_ _)); exact BK184.out⟩, ⟨by (with_reducible repeat (first | refine blk_drewN ?_ _ | refine blk_drew ?_ | refine blk_alloc ?_ _)); refine blk_put (cs := #[.int .u32 t185, .int .u32 t186, .int .i64 0]) ?_ 2 _ (by first | rfl | (simp; done)); (with_reducible repeat (first | refine blk_drewN ?_ _ | refine blk_drew ?_ | refine blk_alloc ?_ _)); refine blk_put (cs := #[.int .u32 t185, .int .u32 0, .int .i64 0]) ?_ 1 _ (by first | rfl | (simp; done)); (with_reducible repeat (first | refine blk_drewN ?_ _ | refine blk_drew ?_ | refine blk_alloc ?_ _)); refine blk_put (cs := #[.int .u32 0, .int .u32 0, .int .i64 0]) ?_ 0 _ (by first | rfl | (simp; done)); (with_reducible repeat (first | refine blk_drewN ?_ _ | refine blk_drew ?_ | refine blk_alloc ?_ _)); exact BK189.out⟩, ⟨by repeat (first | (with_reducible first | exact HB.out | apply below_alloc | apply pw_below_drewN | apply below_drew1 | refine below_set ?_ GE184.out | refine below_set ?_ GE189.out) | exact HB.out)⟩⟩
  case rest =>
    clear HC8
    try clear c1
    try clear c2
    try clear p2
    try clear c5
    try clear c12
    try clear c15
    try clear c17
    try clear c17b0
    try clear c18
    try clear c18b0
    try clear c19
    try clear c19b0
    try clear hcz12_0
    try clear hcz12_1
    try clear hcz12_2
    try clear hcz16_0
    try clear hcz16_1
    try clear hcz16_2
    try clear hfz12_0
    try clear hfz12_1
    try clear hfz12_2
    try clear hfz16_0
    try clear hfz16_1
    try clear hfz16_2
    obtain ⟨kq, x48_7, rfl, HA, HJ7, BK184, BK189, HB⟩ := hcut
    cases kq with
    | zero => exact absurd HA.out (by simp [sphragislaw08_CellMeets.j0])
    | succ kj7 =>
      have H := HA.out
      clear HA
      simp only [sphragislaw08_CellMeets.j0] at H
      by_cases c20 : x48_7 = true
      · subst c20
        have H1 : (if t179 = true then (if t183 = 2 then (some (t188 == 2)) else (some false)) else (some false)) = some r := by rw [if_pos rfl] at H; exact H
        clear H
        have H := H1
        clear H1
        by_cases c21 : t179 = true
        · subst c21
          have H1 : (if t183 = 2 then (some (t188 == 2)) else (some false)) = some r := by rw [if_pos rfl] at H; exact H
          clear H
          have H := H1
          clear H1
          by_cases c22 : t183 = 2
          · rw [if_pos c22] at H
            have c22b0 : (t183 == 2) = true := beq_iff_eq.mpr c22
            have c22b1 : (t183 != 2) = false := bne_eq_false_iff_eq.mpr c22
            clear c22
            obtain rfl := Option.some.inj H
            go_wp2
            go_ret
            exact ⟨by first | rfl | (simp [errW_none, errW_some] <;> rfl) | (simp [*, errW_none, errW_some] <;> rfl), by repeat (first | (with_reducible first | exact HB.out | apply below_alloc | apply pw_below_drewN | apply below_drew1 | refine below_set ?_ GE184.out | refine below_set ?_ GE189.out) | exact HB.out)⟩
          · rw [if_neg c22] at H
            have c22b0 : (t183 == 2) = false := beq_eq_false_iff_ne.mpr c22
            have c22b1 : (t183 != 2) = true := bne_iff_ne.mpr c22
            obtain rfl := Option.some.inj H
            go_wp2
            go_ret
            exact ⟨by first | rfl | (simp [errW_none, errW_some] <;> rfl) | (simp [*, errW_none, errW_some] <;> rfl), by repeat (first | (with_reducible first | exact HB.out | apply below_alloc | apply pw_below_drewN | apply below_drew1 | refine below_set ?_ GE184.out | refine below_set ?_ GE189.out) | exact HB.out)⟩
        · replace c21 := Bool.eq_false_iff.mpr c21
          subst c21
          have H1 : (some false) = some r := by rw [if_neg (show ¬ (false = true) by decide)] at H; exact H
          clear H
          have H := H1
          clear H1
          obtain rfl := Option.some.inj H
          go_wp2
          go_ret
          exact ⟨by first | rfl | (simp [errW_none, errW_some] <;> rfl) | (simp [*, errW_none, errW_some] <;> rfl), by repeat (first | (with_reducible first | exact HB.out | apply below_alloc | apply pw_below_drewN | apply below_drew1 | refine below_set ?_ GE184.out | refine below_set ?_ GE189.out) | exact HB.out)⟩
      · replace c20 := Bool.eq_false_iff.mpr c20
        subst c20
        have H1 : (if t183 = 0 then (if t188 = 0 then (if (!(t180 == t185) || (!(t181 == t186) || (!(t182 == t187)))) = true then (sphragislaw08_CellMeets.j1 kj7 a0 a1 a2 a3 t179 true t180 t181 t182) else ((cell_Has.f t180 t181 t182 a0 a1).bind fun t190 => (if t190 = true then ((cell_Has.f t180 t181 t182 a2 a3).bind fun t191 => (sphragislaw08_CellMeets.j1 kj7 a0 a1 a2 a3 t179 (!t191) t180 t181 t182)) else (sphragislaw08_CellMeets.j1 kj7 a0 a1 a2 a3 t179 true t180 t181 t182)))) else (sphragislaw08_CellMeets.j1 kj7 a0 a1 a2 a3 t179 true t180 t181 t182)) else (sphragislaw08_CellMeets.j1 kj7 a0 a1 a2 a3 t179 true t180 t181 t182)) = some r := by rw [if_neg (show ¬ (false = true) by decide)] at H; exact H
        clear H
        have H := H1
        clear H1
        have HC23 := Aside0.mk H
        clear H
        go_upto_region 6 with (fail)
        go_cut [82] (fun v82 wc => ∃ (kq : Nat) (x82_22 : Bool), v82 = .bool x82_22 ∧ Aside0 (sphragislaw08_CellMeets.j1 kq a0 a1 a2 a3 t179 x82_22 t180 t181 t182 = some r) ∧ Aside0 (kq ≤ kj7) ∧ Aside0 (wc.heap[gb184]? = some (.cells #[.int .u32 t180, .int .u32 t181, .int .i64 t182] 24 (0, 0))) ∧ Aside0 (wc.heap[gb189]? = some (.cells #[.int .u32 t185, .int .u32 t186, .int .i64 t187] 24 (0, 0))) ∧ Aside0 (Below w.heap.size w wc))
        case first =>
          have H := HC23.out
          clear HC23
          by_cases c24 : t183 = 0
          · rw [if_pos c24] at H
            have c24b0 : (t183 == 0) = true := beq_iff_eq.mpr c24
            have c24b1 : (t183 != 0) = false := bne_eq_false_iff_eq.mpr c24
            clear c24
            (first | rw [c24b0] | (simp only [i64_w, i32_w]; rw [c24b0]) | skip)
            by_cases c25 : t188 = 0
            · rw [if_pos c25] at H
              have c25b0 : (t188 == 0) = true := beq_iff_eq.mpr c25
              have c25b1 : (t188 != 0) = false := bne_eq_false_iff_eq.mpr c25
              clear c25
              by_cases c26 : (!(t180 == t185) || (!(t181 == t186) || (!(t182 == t187)))) = true
              · rw [if_pos c26] at H
                have c26b0 : (!(t180 == t185) || (!(t181 == t186) || (!(t182 == t187)))) = true := c26
                clear c26
                have H' := Aside0.mk H
                clear H
                have hnb27 := NB184_189.out
                have hnc27 := NB189_184.out
                have hcz28_0 : wc.cell? ⟨gb184, 0, none⟩ = some (.int .u32 t180) := (blk_cell BK184.out 0).trans rfl
                have hcz28_1 : wc.cell? ⟨gb184, 1, none⟩ = some (.int .u32 t181) := (blk_cell BK184.out 1).trans rfl
                have hcz28_2 : wc.cell? ⟨gb184, 2, none⟩ = some (.int .i64 t182) := (blk_cell BK184.out 2).trans rfl
                have hfz28_0 := blk_frozen BK184.out 0
                have hfz28_1 := blk_frozen BK184.out 1
                have hfz28_2 := blk_frozen BK184.out 2
                have hcz29_0 : wc.cell? ⟨gb189, 0, none⟩ = some (.int .u32 t185) := (blk_cell BK189.out 0).trans rfl
                have hcz29_1 : wc.cell? ⟨gb189, 1, none⟩ = some (.int .u32 t186) := (blk_cell BK189.out 1).trans rfl
                have hcz29_2 : wc.cell? ⟨gb189, 2, none⟩ = some (.int .i64 t187) := (blk_cell BK189.out 2).trans rfl
                have hfz29_0 := blk_frozen BK189.out 0
                have hfz29_1 := blk_frozen BK189.out 1
                have hfz29_2 := blk_frozen BK189.out 2
                go_wp2
                go_meet
                case rel => exact ⟨_, (true), (by first | rfl | (simp; done) | (simp [*]; done)), H', ⟨by have := HJ7.out; first | omega | exact Nat.le_refl _⟩, ⟨by (with_reducible repeat (first | refine blk_drewN ?_ _ | refine blk_drew ?_ | refine blk_alloc ?_ _)); exact BK184.out⟩, ⟨by (with_reducible repeat (first | refine blk_drewN ?_ _ | refine blk_drew ?_ | refine blk_alloc ?_ _)); exact BK189.out⟩, ⟨by repeat (first | (with_reducible first | exact HB.out | apply below_alloc | apply pw_below_drewN | apply below_drew1 | refine below_set ?_ GE184.out | refine below_set ?_ GE189.out) | exact HB.out)⟩⟩
              · rw [if_neg c26] at H
                have c26b0 : (!(t180 == t185) || (!(t181 == t186) || (!(t182 == t187)))) = false := by simpa using c26
                clear c26
                replace H := Option.bind_eq_some_iff.mp H
                obtain ⟨t190, A300, H⟩ := H
                replace H : (if t190 = true then ((cell_Has.f t180 t181 t182 a2 a3).bind fun t191 => (sphragislaw08_CellMeets.j1 kj7 a0 a1 a2 a3 t179 (!t191) t180 t181 t182)) else (sphragislaw08_CellMeets.j1 kj7 a0 a1 a2 a3 t179 true t180 t181 t182)) = some r := H
                have A30 := Aside0.mk A300
                clear A300
                by_cases c31 : t190 = true
                · subst c31
                  have H1 : ((cell_Has.f t180 t181 t182 a2 a3).bind fun t191 => (sphragislaw08_CellMeets.j1 kj7 a0 a1 a2 a3 t179 (!t191) t180 t181 t182)) = some r := by rw [if_pos rfl] at H; exact H
                  clear H
                  have H := H1
                  clear H1
                  replace H := Option.bind_eq_some_iff.mp H
                  obtain ⟨t191, A320, H⟩ := H
                  replace H : (sphragislaw08_CellMeets.j1 kj7 a0 a1 a2 a3 t179 (!t191) t180 t181 t182) = some r := H
                  have A32 := Aside0.mk A320
                  clear A320
                  have H' := Aside0.mk H
                  clear H
                  have hnb33 := NB184_189.out
                  have hnc33 := NB189_184.out
                  have hcz34_0 : wc.cell? ⟨gb184, 0, none⟩ = some (.int .u32 t180) := (blk_cell BK184.out 0).trans rfl
                  have hcz34_1 : wc.cell? ⟨gb184, 1, none⟩ = some (.int .u32 t181) := (blk_cell BK184.out 1).trans rfl
                  have hcz34_2 : wc.cell? ⟨gb184, 2, none⟩ = some (.int .i64 t182) := (blk_cell BK184.out 2).trans rfl
                  have hfz34_0 := blk_frozen BK184.out 0
                  have hfz34_1 := blk_frozen BK184.out 1
                  have hfz34_2 := blk_frozen BK184.out 2
                  have hcz35_0 : wc.cell? ⟨gb189, 0, none⟩ = some (.int .u32 t185) := (blk_cell BK189.out 0).trans rfl
                  have hcz35_1 : wc.cell? ⟨gb189, 1, none⟩ = some (.int .u32 t186) := (blk_cell BK189.out 1).trans rfl
                  have hcz35_2 : wc.cell? ⟨gb189, 2, none⟩ = some (.int .i64 t187) := (blk_cell BK189.out 2).trans rfl
                  have hfz35_0 := blk_frozen BK189.out 0
                  have hfz35_1 := blk_frozen BK189.out 1
                  have hfz35_2 := blk_frozen BK189.out 2
                  go_wp2_with (first | (go_at_call 17; (with_reducible refine (cell_Has.calls t180 t181 t182 a0 a1 true _ A30.out).mono ?_); rintro e w36 ⟨rfl, hb⟩; have n0_ := Aside0.mk (blk_below (g := gb184) (o := .cells #[.int .u32 t180, .int .u32 t181, .int .i64 t182] 24 (0, 0)) (by (with_reducible repeat (first | refine blk_drewN ?_ _ | refine blk_drew ?_ | refine blk_alloc ?_ _)); exact BK184.out) hb); have n1_ := Aside0.mk (blk_below (g := gb189) (o := .cells #[.int .u32 t185, .int .u32 t186, .int .i64 t187] 24 (0, 0)) (by (with_reducible repeat (first | refine blk_drewN ?_ _ | refine blk_drew ?_ | refine blk_alloc ?_ _)); exact BK189.out) hb); have n2_ := Aside0.mk (below_step (by repeat (first | (with_reducible first | exact HB.out | apply below_alloc | apply pw_below_drewN | apply below_drew1 | refine below_set ?_ GE184.out | refine below_set ?_ GE189.out) | exact HB.out)) hb); clear BK184; clear BK189; clear HB; have BK184 := n0_; have BK189 := n1_; have HB := n2_; clear n0_ n1_ n2_; (try clear hb); (try clear hb2); (try clear hk); (try clear hi); have hcz37_0 : w36.cell? ⟨gb184, 0, none⟩ = some (.int .u32 t180) := (blk_cell BK184.out 0).trans rfl; have hcz37_1 : w36.cell? ⟨gb184, 1, none⟩ = some (.int .u32 t181) := (blk_cell BK184.out 1).trans rfl; have hcz37_2 : w36.cell? ⟨gb184, 2, none⟩ = some (.int .i64 t182) := (blk_cell BK184.out 2).trans rfl; have hfz37_0 := blk_frozen BK184.out 0; have hfz37_1 := blk_frozen BK184.out 1; have hfz37_2 := blk_frozen BK184.out 2) | (go_at_call 17; (with_reducible refine (cell_Has.calls t180 t181 t182 a2 a3 t191 _ A32.out).mono ?_); rintro e w38 ⟨rfl, hb⟩; have n0_ := Aside0.mk (blk_below (g := gb184) (o := .cells #[.int .u32 t180, .int .u32 t181, .int .i64 t182] 24 (0, 0)) (by (with_reducible repeat (first | refine blk_drewN ?_ _ | refine blk_drew ?_ | refine blk_alloc ?_ _)); exact BK184.out) hb); have n1_ := Aside0.mk (blk_below (g := gb189) (o := .cells #[.int .u32 t185, .int .u32 t186, .int .i64 t187] 24 (0, 0)) (by (with_reducible repeat (first | refine blk_drewN ?_ _ | refine blk_drew ?_ | refine blk_alloc ?_ _)); exact BK189.out) hb); have n2_ := Aside0.mk (below_step (by repeat (first | (with_reducible first | exact HB.out | apply below_alloc | apply pw_below_drewN | apply below_drew1 | refine below_set ?_ GE184.out | refine below_set ?_ GE189.out) | exact HB.out)) hb); clear BK184; clear BK189; clear HB; have BK184 := n0_; have BK189 := n1_; have HB := n2_; clear n0_ n1_ n2_; (try clear hb); (try clear hb2); (try clear hk); (try clear hi)))
                  go_meet
                  case rel => exact ⟨_, (!t191), (by first | rfl | (simp; done) | (simp [*]; done)), H', ⟨by have := HJ7.out; first | omega | exact Nat.le_refl _⟩, ⟨by (with_reducible repeat (first | refine blk_drewN ?_ _ | refine blk_drew ?_ | refine blk_alloc ?_ _)); exact BK184.out⟩, ⟨by (with_reducible repeat (first | refine blk_drewN ?_ _ | refine blk_drew ?_ | refine blk_alloc ?_ _)); exact BK189.out⟩, ⟨by repeat (first | (with_reducible first | exact HB.out | apply below_alloc | apply pw_below_drewN | apply below_drew1 | refine below_set ?_ GE184.out | refine below_set ?_ GE189.out) | exact HB.out)⟩⟩
                · replace c31 := Bool.eq_false_iff.mpr c31
                  subst c31
                  have H1 : (sphragislaw08_CellMeets.j1 kj7 a0 a1 a2 a3 t179 true t180 t181 t182) = some r := by rw [if_neg (show ¬ (false = true) by decide)] at H; exact H
                  clear H
                  have H := H1
                  clear H1
                  have H' := Aside0.mk H
                  clear H
                  have hnb39 := NB184_189.out
                  have hnc39 := NB189_184.out
                  have hcz40_0 : wc.cell? ⟨gb184, 0, none⟩ = some (.int .u32 t180) := (blk_cell BK184.out 0).trans rfl
                  have hcz40_1 : wc.cell? ⟨gb184, 1, none⟩ = some (.int .u32 t181) := (blk_cell BK184.out 1).trans rfl
                  have hcz40_2 : wc.cell? ⟨gb184, 2, none⟩ = some (.int .i64 t182) := (blk_cell BK184.out 2).trans rfl
                  have hfz40_0 := blk_frozen BK184.out 0
                  have hfz40_1 := blk_frozen BK184.out 1
                  have hfz40_2 := blk_frozen BK184.out 2
                  have hcz41_0 : wc.cell? ⟨gb189, 0, none⟩ = some (.int .u32 t185) := (blk_cell BK189.out 0).trans rfl
                  have hcz41_1 : wc.cell? ⟨gb189, 1, none⟩ = some (.int .u32 t186) := (blk_cell BK189.out 1).trans rfl
                  have hcz41_2 : wc.cell? ⟨gb189, 2, none⟩ = some (.int .i64 t187) := (blk_cell BK189.out 2).trans rfl
                  have hfz41_0 := blk_frozen BK189.out 0
                  have hfz41_1 := blk_frozen BK189.out 1
                  have hfz41_2 := blk_frozen BK189.out 2
                  go_wp2_with (first | (go_at_call 17; (with_reducible refine (cell_Has.calls t180 t181 t182 a0 a1 false _ A30.out).mono ?_); rintro e w42 ⟨rfl, hb⟩; have n0_ := Aside0.mk (blk_below (g := gb184) (o := .cells #[.int .u32 t180, .int .u32 t181, .int .i64 t182] 24 (0, 0)) (by (with_reducible repeat (first | refine blk_drewN ?_ _ | refine blk_drew ?_ | refine blk_alloc ?_ _)); exact BK184.out) hb); have n1_ := Aside0.mk (blk_below (g := gb189) (o := .cells #[.int .u32 t185, .int .u32 t186, .int .i64 t187] 24 (0, 0)) (by (with_reducible repeat (first | refine blk_drewN ?_ _ | refine blk_drew ?_ | refine blk_alloc ?_ _)); exact BK189.out) hb); have n2_ := Aside0.mk (below_step (by repeat (first | (with_reducible first | exact HB.out | apply below_alloc | apply pw_below_drewN | apply below_drew1 | refine below_set ?_ GE184.out | refine below_set ?_ GE189.out) | exact HB.out)) hb); clear BK184; clear BK189; clear HB; have BK184 := n0_; have BK189 := n1_; have HB := n2_; clear n0_ n1_ n2_; (try clear hb); (try clear hb2); (try clear hk); (try clear hi)))
                  go_meet
                  case rel => exact ⟨_, (true), (by first | rfl | (simp; done) | (simp [*]; done)), H', ⟨by have := HJ7.out; first | omega | exact Nat.le_refl _⟩, ⟨by (with_reducible repeat (first | refine blk_drewN ?_ _ | refine blk_drew ?_ | refine blk_alloc ?_ _)); exact BK184.out⟩, ⟨by (with_reducible repeat (first | refine blk_drewN ?_ _ | refine blk_drew ?_ | refine blk_alloc ?_ _)); exact BK189.out⟩, ⟨by repeat (first | (with_reducible first | exact HB.out | apply below_alloc | apply pw_below_drewN | apply below_drew1 | refine below_set ?_ GE184.out | refine below_set ?_ GE189.out) | exact HB.out)⟩⟩
            · rw [if_neg c25] at H
              have c25b0 : (t188 == 0) = false := beq_eq_false_iff_ne.mpr c25
              have c25b1 : (t188 != 0) = true := bne_iff_ne.mpr c25
              have H' := Aside0.mk H
              clear H
              go_wp2
              go_meet
              case rel => exact ⟨_, (true), (by first | rfl | (simp; done) | (simp [*]; done)), H', ⟨by have := HJ7.out; first | omega | exact Nat.le_refl _⟩, ⟨by (with_reducible repeat (first | refine blk_drewN ?_ _ | refine blk_drew ?_ | refine blk_alloc ?_ _)); exact BK184.out⟩, ⟨by (with_reducible repeat (first | refine blk_drewN ?_ _ | refine blk_drew ?_ | refine blk_alloc ?_ _)); exact BK189.out⟩, ⟨by repeat (first | (with_reducible first | exact HB.out | apply below_alloc | apply pw_below_drewN | apply below_drew1 | refine below_set ?_ GE184.out | refine below_set ?_ GE189.out) | exact HB.out)⟩⟩
          · rw [if_neg c24] at H
            have c24b0 : (t183 == 0) = false := beq_eq_false_iff_ne.mpr c24
            have c24b1 : (t183 != 0) = true := bne_iff_ne.mpr c24
            (first | rw [c24b0] | (simp only [i64_w, i32_w]; rw [c24b0]) | skip)
            have H' := Aside0.mk H
            clear H
            go_wp2
            go_meet
            case rel => exact ⟨_, (true), (by first | rfl | (simp; done) | (simp [*]; done)), H', ⟨by have := HJ7.out; first | omega | exact Nat.le_refl _⟩, ⟨by (with_reducible repeat (first | refine blk_drewN ?_ _ | refine blk_drew ?_ | refine blk_alloc ?_ _)); exact BK184.out⟩, ⟨by (with_reducible repeat (first | refine blk_drewN ?_ _ | refine blk_drew ?_ | refine blk_alloc ?_ _)); exact BK189.out⟩, ⟨by repeat (first | (with_reducible first | exact HB.out | apply below_alloc | apply pw_below_drewN | apply below_drew1 | refine below_set ?_ GE184.out | refine below_set ?_ GE189.out) | exact HB.out)⟩⟩
        case rest =>
          clear HC23
          try clear c1
          try clear c2
          try clear p2
          try clear c3
          try clear c5
          try clear c12
          try clear c15
          try clear c17
          try clear c17b0
          try clear c18
          try clear c18b0
          try clear c19
          try clear c19b0
          try clear c20
          try clear c21
          try clear c22
          try clear c22b0
          try clear c22b1
          try clear c24
          try clear c24b0
          try clear c24b1
          try clear c25
          try clear c25b0
          try clear c25b1
          try clear c26
          try clear c26b0
          try clear c27
          try clear c31
          try clear c33
          try clear c39
          try clear hcz12_0
          try clear hcz12_1
          try clear hcz12_2
          try clear hcz16_0
          try clear hcz16_1
          try clear hcz16_2
          try clear hcz28_0
          try clear hcz28_1
          try clear hcz28_2
          try clear hcz29_0
          try clear hcz29_1
          try clear hcz29_2
          try clear hcz34_0
          try clear hcz34_1
          try clear hcz34_2
          try clear hcz35_0
          try clear hcz35_1
          try clear hcz35_2
          try clear hcz37_0
          try clear hcz37_1
          try clear hcz37_2
          try clear hcz40_0
          try clear hcz40_1
          try clear hcz40_2
          try clear hcz41_0
          try clear hcz41_1
          try clear hcz41_2
          try clear hfz12_0
          try clear hfz12_1
          try clear hfz12_2
          try clear hfz16_0
          try clear hfz16_1
          try clear hfz16_2
          try clear hfz28_0
          try clear hfz28_1
          try clear hfz28_2
          try clear hfz29_0
          try clear hfz29_1
          try clear hfz29_2
          try clear hfz34_0
          try clear hfz34_1
          try clear hfz34_2
          try clear hfz35_0
          try clear hfz35_1
          try clear hfz35_2
          try clear hfz37_0
          try clear hfz37_1
          try clear hfz37_2
          try clear hfz40_0
          try clear hfz40_1
          try clear hfz40_2
          try clear hfz41_0
          try clear hfz41_1
          try clear hfz41_2
          try clear p2
          obtain ⟨kq, x82_22, rfl, HA, HJ22, BK184, BK189, HB⟩ := hcut
          cases kq with
          | zero => exact absurd HA.out (by simp [sphragislaw08_CellMeets.j1])
          | succ kj22 =>
            have H := HA.out
            clear HA
            simp only [sphragislaw08_CellMeets.j1] at H
            by_cases c43 : x82_22 = true
            · subst c43
              have H1 : (some false) = some r := by rw [if_pos rfl] at H; exact H
              clear H
              have H := H1
              clear H1
              obtain rfl := Option.some.inj H
              go_wp2
              go_ret
              exact ⟨by first | rfl | (simp [errW_none, errW_some] <;> rfl) | (simp [*, errW_none, errW_some] <;> rfl), by repeat (first | (with_reducible first | exact HB.out | apply below_alloc | apply pw_below_drewN | apply below_drew1 | refine below_set ?_ GE184.out | refine below_set ?_ GE189.out) | exact HB.out)⟩
            · replace c43 := Bool.eq_false_iff.mpr c43
              subst c43
              have H1 : (if a0 = a2 then (sphragislaw08_CellMeets.j2 kj22 a0 a1 a2 a3 t179 (a1 == a3) t180 t181 t182) else (sphragislaw08_CellMeets.j2 kj22 a0 a1 a2 a3 t179 false t180 t181 t182)) = some r := by rw [if_neg (show ¬ (false = true) by decide)] at H; exact H
              clear H
              have H := H1
              clear H1
              have HC44 := Aside0.mk H
              clear H
              go_upto_region 8 with (fail)
              go_cut [90] (fun v90 wc => ∃ (kq : Nat) (x90_43 : Bool), v90 = .bool x90_43 ∧ Aside0 (sphragislaw08_CellMeets.j2 kq a0 a1 a2 a3 t179 x90_43 t180 t181 t182 = some r) ∧ Aside0 (kq ≤ kj22) ∧ Aside0 (wc.heap[gb184]? = some (.cells #[.int .u32 t180, .int .u32 t181, .int .i64 t182] 24 (0, 0))) ∧ Aside0 (wc.heap[gb189]? = some (.cells #[.int .u32 t185, .int .u32 t186, .int .i64 t187] 24 (0, 0))) ∧ Aside0 (Below w.heap.size w wc))
              case first =>
                have H := HC44.out
                clear HC44
                by_cases c45 : a0 = a2
                · rw [if_pos c45] at H
                  have c45b0 : (a0 == a2) = true := beq_iff_eq.mpr c45
                  have c45b1 : (a0 != a2) = false := bne_eq_false_iff_eq.mpr c45
                  clear c45
                  (first | rw [c45b0] | (simp only [i64_w, i32_w]; rw [c45b0]) | skip)
                  have H' := Aside0.mk H
                  clear H
                  go_wp2
                  go_meet
                  case rel => exact ⟨_, ((a1 == a3)), (by first | rfl | (simp; done) | (simp [*]; done)), H', ⟨by have := HJ7.out; have := HJ22.out; first | omega | exact Nat.le_refl _⟩, ⟨by (with_reducible repeat (first | refine blk_drewN ?_ _ | refine blk_drew ?_ | refine blk_alloc ?_ _)); exact BK184.out⟩, ⟨by (with_reducible repeat (first | refine blk_drewN ?_ _ | refine blk_drew ?_ | refine blk_alloc ?_ _)); exact BK189.out⟩, ⟨by repeat (first | (with_reducible first | exact HB.out | apply below_alloc | apply pw_below_drewN | apply below_drew1 | refine below_set ?_ GE184.out | refine below_set ?_ GE189.out) | exact HB.out)⟩⟩
                · rw [if_neg c45] at H
                  have c45b0 : (a0 == a2) = false := beq_eq_false_iff_ne.mpr c45
                  have c45b1 : (a0 != a2) = true := bne_iff_ne.mpr c45
                  (first | rw [c45b0] | (simp only [i64_w, i32_w]; rw [c45b0]) | skip)
                  have H' := Aside0.mk H
                  clear H
                  go_wp2
                  go_meet
                  case rel => exact ⟨_, (false), (by first | rfl | (simp; done) | (simp [*]; done)), H', ⟨by have := HJ7.out; have := HJ22.out; first | omega | exact Nat.le_refl _⟩, ⟨by (with_reducible repeat (first | refine blk_drewN ?_ _ | refine blk_drew ?_ | refine blk_alloc ?_ _)); exact BK184.out⟩, ⟨by (with_reducible repeat (first | refine blk_drewN ?_ _ | refine blk_drew ?_ | refine blk_alloc ?_ _)); exact BK189.out⟩, ⟨by repeat (first | (with_reducible first | exact HB.out | apply below_alloc | apply pw_below_drewN | apply below_drew1 | refine below_set ?_ GE184.out | refine below_set ?_ GE189.out) | exact HB.out)⟩⟩
              case rest =>
                clear HC44
                try clear c1
                try clear c2
                try clear p2
                try clear c3
                try clear c4
                try clear c5
                try clear c12
                try clear c15
                try clear c17
                try clear c17b0
                try clear c18
                try clear c18b0
                try clear c19
                try clear c19b0
                try clear c20
                try clear c21
                try clear c22
                try clear c22b0
                try clear c22b1
                try clear c24
                try clear c24b0
                try clear c24b1
                try clear c25
                try clear c25b0
                try clear c25b1
                try clear c26
                try clear c26b0
                try clear c27
                try clear c31
                try clear c33
                try clear c39
                try clear c43
                try clear c45
                try clear c45b0
                try clear c45b1
                try clear hcz12_0
                try clear hcz12_1
                try clear hcz12_2
                try clear hcz16_0
                try clear hcz16_1
                try clear hcz16_2
                try clear hcz28_0
                try clear hcz28_1
                try clear hcz28_2
                try clear hcz29_0
                try clear hcz29_1
                try clear hcz29_2
                try clear hcz34_0
                try clear hcz34_1
                try clear hcz34_2
                try clear hcz35_0
                try clear hcz35_1
                try clear hcz35_2
                try clear hcz37_0
                try clear hcz37_1
                try clear hcz37_2
                try clear hcz40_0
                try clear hcz40_1
                try clear hcz40_2
                try clear hcz41_0
                try clear hcz41_1
                try clear hcz41_2
                try clear hfz12_0
                try clear hfz12_1
                try clear hfz12_2
                try clear hfz16_0
                try clear hfz16_1
                try clear hfz16_2
                try clear hfz28_0
                try clear hfz28_1
                try clear hfz28_2
                try clear hfz29_0
                try clear hfz29_1
                try clear hfz29_2
                try clear hfz34_0
                try clear hfz34_1
                try clear hfz34_2
                try clear hfz35_0
                try clear hfz35_1
                try clear hfz35_2
                try clear hfz37_0
                try clear hfz37_1
                try clear hfz37_2
                try clear hfz40_0
                try clear hfz40_1
                try clear hfz40_2
                try clear hfz41_0
                try clear hfz41_1
                try clear hfz41_2
                try clear p2
                obtain ⟨kq, x90_43, rfl, HA, HJ43, BK184, BK189, HB⟩ := hcut
                cases kq with
                | zero => exact absurd HA.out (by simp [sphragislaw08_CellMeets.j2])
                | succ kj43 =>
                  have H := HA.out
                  clear HA
                  simp only [sphragislaw08_CellMeets.j2] at H
                  by_cases c46 : x90_43 = true
                  · subst c46
                    have H1 : (if t179 = true then (some (t182 == 0)) else (some false)) = some r := by rw [if_pos rfl] at H; exact H
                    clear H
                    have H := H1
                    clear H1
                    by_cases c47 : t179 = true
                    · subst c47
                      have H1 : (some (t182 == 0)) = some r := by rw [if_pos rfl] at H; exact H
                      clear H
                      have H := H1
                      clear H1
                      obtain rfl := Option.some.inj H
                      have hnb48 := NB184_189.out
                      have hnc48 := NB189_184.out
                      have hcz49_0 : wc.cell? ⟨gb184, 0, none⟩ = some (.int .u32 t180) := (blk_cell BK184.out 0).trans rfl
                      have hcz49_1 : wc.cell? ⟨gb184, 1, none⟩ = some (.int .u32 t181) := (blk_cell BK184.out 1).trans rfl
                      have hcz49_2 : wc.cell? ⟨gb184, 2, none⟩ = some (.int .i64 t182) := (blk_cell BK184.out 2).trans rfl
                      have hfz49_0 := blk_frozen BK184.out 0
                      have hfz49_1 := blk_frozen BK184.out 1
                      have hfz49_2 := blk_frozen BK184.out 2
                      go_wp2
                      go_ret
                      exact ⟨by first | rfl | (simp [errW_none, errW_some] <;> rfl) | (simp [*, errW_none, errW_some] <;> rfl), by repeat (first | (with_reducible first | exact HB.out | apply below_alloc | apply pw_below_drewN | apply below_drew1 | refine below_set ?_ GE184.out | refine below_set ?_ GE189.out) | exact HB.out)⟩
                    · replace c47 := Bool.eq_false_iff.mpr c47
                      subst c47
                      have H1 : (some false) = some r := by rw [if_neg (show ¬ (false = true) by decide)] at H; exact H
                      clear H
                      have H := H1
                      clear H1
                      obtain rfl := Option.some.inj H
                      go_wp2
                      go_ret
                      exact ⟨by first | rfl | (simp [errW_none, errW_some] <;> rfl) | (simp [*, errW_none, errW_some] <;> rfl), by repeat (first | (with_reducible first | exact HB.out | apply below_alloc | apply pw_below_drewN | apply below_drew1 | refine below_set ?_ GE184.out | refine below_set ?_ GE189.out) | exact HB.out)⟩
                  · replace c46 := Bool.eq_false_iff.mpr c46
                    subst c46
                    have H1 : ((cell_Where.f t180 t181 t182 a0 a1).bind fun bt192 => ((cell_Where.f t180 t181 t182 a2 a3).bind fun bt194 => (if t179 = true then (if bt192.2 = 0 then (if bt194.2 = 0 then (some (bt192.1 != bt194.1)) else (some false)) else (some false)) else (some false)))) = some r := by rw [if_neg (show ¬ (false = true) by decide)] at H; exact H
                    clear H
                    have H := H1
                    clear H1
                    replace H := Option.bind_eq_some_iff.mp H
                    obtain ⟨⟨t192, t193⟩, A500, H⟩ := H
                    replace H : ((cell_Where.f t180 t181 t182 a2 a3).bind fun bt194 => (if t179 = true then (if t193 = 0 then (if bt194.2 = 0 then (some (t192 != bt194.1)) else (some false)) else (some false)) else (some false))) = some r := H
                    have A50 := Aside0.mk A500
                    clear A500
                    replace H := Option.bind_eq_some_iff.mp H
                    obtain ⟨⟨t194, t195⟩, A510, H⟩ := H
                    replace H : (if t179 = true then (if t193 = 0 then (if t195 = 0 then (some (t192 != t194)) else (some false)) else (some false)) else (some false)) = some r := H
                    have A51 := Aside0.mk A510
                    clear A510
                    by_cases c52 : t179 = true
                    · subst c52
                      have H1 : (if t193 = 0 then (if t195 = 0 then (some (t192 != t194)) else (some false)) else (some false)) = some r := by rw [if_pos rfl] at H; exact H
                      clear H
                      have H := H1
                      clear H1
                      by_cases c53 : t193 = 0
                      · rw [if_pos c53] at H
                        have c53b0 : (t193 == 0) = true := beq_iff_eq.mpr c53
                        have c53b1 : (t193 != 0) = false := bne_eq_false_iff_eq.mpr c53
                        clear c53
                        by_cases c54 : t195 = 0
                        · rw [if_pos c54] at H
                          have c54b0 : (t195 == 0) = true := beq_iff_eq.mpr c54
                          have c54b1 : (t195 != 0) = false := bne_eq_false_iff_eq.mpr c54
                          clear c54
                          obtain rfl := Option.some.inj H
                          have hnb55 := NB184_189.out
                          have hnc55 := NB189_184.out
                          have hcz56_0 : wc.cell? ⟨gb184, 0, none⟩ = some (.int .u32 t180) := (blk_cell BK184.out 0).trans rfl
                          have hcz56_1 : wc.cell? ⟨gb184, 1, none⟩ = some (.int .u32 t181) := (blk_cell BK184.out 1).trans rfl
                          have hcz56_2 : wc.cell? ⟨gb184, 2, none⟩ = some (.int .i64 t182) := (blk_cell BK184.out 2).trans rfl
                          have hfz56_0 := blk_frozen BK184.out 0
                          have hfz56_1 := blk_frozen BK184.out 1
                          have hfz56_2 := blk_frozen BK184.out 2
                          go_wp2_with (first | ((with_reducible refine gate_callee (f := 23) rfl ?_); refine goesL_ (some 101) rfl rfl Try.func23 (by kernel_rfl) rfl #[.agg #[.int .u32 t180, .int .u32 t181, .int .i64 t182], .int .u32 a0, .int .u32 a1] rfl (by (try simp only [List.map_toArray, List.map_cons, List.map_nil]); first | done | rfl | (simp only [List.length_drop, List.length_take]; rfl)) ?_; (with_reducible refine (cell_Where.calls t180 t181 t182 a0 a1 t192 t193 _ A50.out).mono ?_); rintro e w57 ⟨rfl, hb⟩; refine ⟨_, rfl, ?_⟩; have n0_ := Aside0.mk (blk_below (g := gb184) (o := .cells #[.int .u32 t180, .int .u32 t181, .int .i64 t182] 24 (0, 0)) (by (with_reducible repeat (first | refine blk_drewN ?_ _ | refine blk_drew ?_ | refine blk_alloc ?_ _)); exact BK184.out) hb); have n1_ := Aside0.mk (blk_below (g := gb189) (o := .cells #[.int .u32 t185, .int .u32 t186, .int .i64 t187] 24 (0, 0)) (by (with_reducible repeat (first | refine blk_drewN ?_ _ | refine blk_drew ?_ | refine blk_alloc ?_ _)); exact BK189.out) hb); have n2_ := Aside0.mk (below_step (by repeat (first | (with_reducible first | exact HB.out | apply below_alloc | apply pw_below_drewN | apply below_drew1 | refine below_set ?_ GE184.out | refine below_set ?_ GE189.out) | exact HB.out)) hb); clear BK184; clear BK189; clear HB; have BK184 := n0_; have BK189 := n1_; have HB := n2_; clear n0_ n1_ n2_; (try clear hb); (try clear hb2); (try clear hk); (try clear hi); have hcz58_0 : w57.cell? ⟨gb184, 0, none⟩ = some (.int .u32 t180) := (blk_cell BK184.out 0).trans rfl; have hcz58_1 : w57.cell? ⟨gb184, 1, none⟩ = some (.int .u32 t181) := (blk_cell BK184.out 1).trans rfl; have hcz58_2 : w57.cell? ⟨gb184, 2, none⟩ = some (.int .i64 t182) := (blk_cell BK184.out 2).trans rfl; have hfz58_0 := blk_frozen BK184.out 0; have hfz58_1 := blk_frozen BK184.out 1; have hfz58_2 := blk_frozen BK184.out 2) | ((with_reducible refine gate_callee (f := 23) rfl ?_); refine goesL_ (some 108) rfl rfl Try.func23 (by kernel_rfl) rfl #[.agg #[.int .u32 t180, .int .u32 t181, .int .i64 t182], .int .u32 a2, .int .u32 a3] rfl (by (try simp only [List.map_toArray, List.map_cons, List.map_nil]); first | done | rfl | (simp only [List.length_drop, List.length_take]; rfl)) ?_; (with_reducible refine (cell_Where.calls t180 t181 t182 a2 a3 t194 t195 _ A51.out).mono ?_); rintro e w59 ⟨rfl, hb⟩; refine ⟨_, rfl, ?_⟩; have n0_ := Aside0.mk (blk_below (g := gb184) (o := .cells #[.int .u32 t180, .int .u32 t181, .int .i64 t182] 24 (0, 0)) (by (with_reducible repeat (first | refine blk_drewN ?_ _ | refine blk_drew ?_ | refine blk_alloc ?_ _)); exact BK184.out) hb); have n1_ := Aside0.mk (blk_below (g := gb189) (o := .cells #[.int .u32 t185, .int .u32 t186, .int .i64 t187] 24 (0, 0)) (by (with_reducible repeat (first | refine blk_drewN ?_ _ | refine blk_drew ?_ | refine blk_alloc ?_ _)); exact BK189.out) hb); have n2_ := Aside0.mk (below_step (by repeat (first | (with_reducible first | exact HB.out | apply below_alloc | apply pw_below_drewN | apply below_drew1 | refine below_set ?_ GE184.out | refine below_set ?_ GE189.out) | exact HB.out)) hb); clear BK184; clear BK189; clear HB; have BK184 := n0_; have BK189 := n1_; have HB := n2_; clear n0_ n1_ n2_; (try clear hb); (try clear hb2); (try clear hk); (try clear hi)))
                          go_ret
                          exact ⟨by first | rfl | (simp [errW_none, errW_some] <;> rfl) | (simp [*, errW_none, errW_some] <;> rfl), by repeat (first | (with_reducible first | exact HB.out | apply below_alloc | apply pw_below_drewN | apply below_drew1 | refine below_set ?_ GE184.out | refine below_set ?_ GE189.out) | exact HB.out)⟩
                        · rw [if_neg c54] at H
                          have c54b0 : (t195 == 0) = false := beq_eq_false_iff_ne.mpr c54
                          have c54b1 : (t195 != 0) = true := bne_iff_ne.mpr c54
                          obtain rfl := Option.some.inj H
                          have hnb60 := NB184_189.out
                          have hnc60 := NB189_184.out
                          have hcz61_0 : wc.cell? ⟨gb184, 0, none⟩ = some (.int .u32 t180) := (blk_cell BK184.out 0).trans rfl
                          have hcz61_1 : wc.cell? ⟨gb184, 1, none⟩ = some (.int .u32 t181) := (blk_cell BK184.out 1).trans rfl
                          have hcz61_2 : wc.cell? ⟨gb184, 2, none⟩ = some (.int .i64 t182) := (blk_cell BK184.out 2).trans rfl
                          have hfz61_0 := blk_frozen BK184.out 0
                          have hfz61_1 := blk_frozen BK184.out 1
                          have hfz61_2 := blk_frozen BK184.out 2
                          go_wp2_with (first | ((with_reducible refine gate_callee (f := 23) rfl ?_); refine goesL_ (some 101) rfl rfl Try.func23 (by kernel_rfl) rfl #[.agg #[.int .u32 t180, .int .u32 t181, .int .i64 t182], .int .u32 a0, .int .u32 a1] rfl (by (try simp only [List.map_toArray, List.map_cons, List.map_nil]); first | done | rfl | (simp only [List.length_drop, List.length_take]; rfl)) ?_; (with_reducible refine (cell_Where.calls t180 t181 t182 a0 a1 t192 t193 _ A50.out).mono ?_); rintro e w62 ⟨rfl, hb⟩; refine ⟨_, rfl, ?_⟩; have n0_ := Aside0.mk (blk_below (g := gb184) (o := .cells #[.int .u32 t180, .int .u32 t181, .int .i64 t182] 24 (0, 0)) (by (with_reducible repeat (first | refine blk_drewN ?_ _ | refine blk_drew ?_ | refine blk_alloc ?_ _)); exact BK184.out) hb); have n1_ := Aside0.mk (blk_below (g := gb189) (o := .cells #[.int .u32 t185, .int .u32 t186, .int .i64 t187] 24 (0, 0)) (by (with_reducible repeat (first | refine blk_drewN ?_ _ | refine blk_drew ?_ | refine blk_alloc ?_ _)); exact BK189.out) hb); have n2_ := Aside0.mk (below_step (by repeat (first | (with_reducible first | exact HB.out | apply below_alloc | apply pw_below_drewN | apply below_drew1 | refine below_set ?_ GE184.out | refine below_set ?_ GE189.out) | exact HB.out)) hb); clear BK184; clear BK189; clear HB; have BK184 := n0_; have BK189 := n1_; have HB := n2_; clear n0_ n1_ n2_; (try clear hb); (try clear hb2); (try clear hk); (try clear hi); have hcz63_0 : w62.cell? ⟨gb184, 0, none⟩ = some (.int .u32 t180) := (blk_cell BK184.out 0).trans rfl; have hcz63_1 : w62.cell? ⟨gb184, 1, none⟩ = some (.int .u32 t181) := (blk_cell BK184.out 1).trans rfl; have hcz63_2 : w62.cell? ⟨gb184, 2, none⟩ = some (.int .i64 t182) := (blk_cell BK184.out 2).trans rfl; have hfz63_0 := blk_frozen BK184.out 0; have hfz63_1 := blk_frozen BK184.out 1; have hfz63_2 := blk_frozen BK184.out 2) | ((with_reducible refine gate_callee (f := 23) rfl ?_); refine goesL_ (some 108) rfl rfl Try.func23 (by kernel_rfl) rfl #[.agg #[.int .u32 t180, .int .u32 t181, .int .i64 t182], .int .u32 a2, .int .u32 a3] rfl (by (try simp only [List.map_toArray, List.map_cons, List.map_nil]); first | done | rfl | (simp only [List.length_drop, List.length_take]; rfl)) ?_; (with_reducible refine (cell_Where.calls t180 t181 t182 a2 a3 t194 t195 _ A51.out).mono ?_); rintro e w64 ⟨rfl, hb⟩; refine ⟨_, rfl, ?_⟩; have n0_ := Aside0.mk (blk_below (g := gb184) (o := .cells #[.int .u32 t180, .int .u32 t181, .int .i64 t182] 24 (0, 0)) (by (with_reducible repeat (first | refine blk_drewN ?_ _ | refine blk_drew ?_ | refine blk_alloc ?_ _)); exact BK184.out) hb); have n1_ := Aside0.mk (blk_below (g := gb189) (o := .cells #[.int .u32 t185, .int .u32 t186, .int .i64 t187] 24 (0, 0)) (by (with_reducible repeat (first | refine blk_drewN ?_ _ | refine blk_drew ?_ | refine blk_alloc ?_ _)); exact BK189.out) hb); have n2_ := Aside0.mk (below_step (by repeat (first | (with_reducible first | exact HB.out | apply below_alloc | apply pw_below_drewN | apply below_drew1 | refine below_set ?_ GE184.out | refine below_set ?_ GE189.out) | exact HB.out)) hb); clear BK184; clear BK189; clear HB; have BK184 := n0_; have BK189 := n1_; have HB := n2_; clear n0_ n1_ n2_; (try clear hb); (try clear hb2); (try clear hk); (try clear hi)))
                          go_ret
                          exact ⟨by first | rfl | (simp [errW_none, errW_some] <;> rfl) | (simp [*, errW_none, errW_some] <;> rfl), by repeat (first | (with_reducible first | exact HB.out | apply below_alloc | apply pw_below_drewN | apply below_drew1 | refine below_set ?_ GE184.out | refine below_set ?_ GE189.out) | exact HB.out)⟩
                      · rw [if_neg c53] at H
                        have c53b0 : (t193 == 0) = false := beq_eq_false_iff_ne.mpr c53
                        have c53b1 : (t193 != 0) = true := bne_iff_ne.mpr c53
                        obtain rfl := Option.some.inj H
                        have hnb65 := NB184_189.out
                        have hnc65 := NB189_184.out
                        have hcz66_0 : wc.cell? ⟨gb184, 0, none⟩ = some (.int .u32 t180) := (blk_cell BK184.out 0).trans rfl
                        have hcz66_1 : wc.cell? ⟨gb184, 1, none⟩ = some (.int .u32 t181) := (blk_cell BK184.out 1).trans rfl
                        have hcz66_2 : wc.cell? ⟨gb184, 2, none⟩ = some (.int .i64 t182) := (blk_cell BK184.out 2).trans rfl
                        have hfz66_0 := blk_frozen BK184.out 0
                        have hfz66_1 := blk_frozen BK184.out 1
                        have hfz66_2 := blk_frozen BK184.out 2
                        go_wp2_with (first | ((with_reducible refine gate_callee (f := 23) rfl ?_); refine goesL_ (some 101) rfl rfl Try.func23 (by kernel_rfl) rfl #[.agg #[.int .u32 t180, .int .u32 t181, .int .i64 t182], .int .u32 a0, .int .u32 a1] rfl (by (try simp only [List.map_toArray, List.map_cons, List.map_nil]); first | done | rfl | (simp only [List.length_drop, List.length_take]; rfl)) ?_; (with_reducible refine (cell_Where.calls t180 t181 t182 a0 a1 t192 t193 _ A50.out).mono ?_); rintro e w67 ⟨rfl, hb⟩; refine ⟨_, rfl, ?_⟩; have n0_ := Aside0.mk (blk_below (g := gb184) (o := .cells #[.int .u32 t180, .int .u32 t181, .int .i64 t182] 24 (0, 0)) (by (with_reducible repeat (first | refine blk_drewN ?_ _ | refine blk_drew ?_ | refine blk_alloc ?_ _)); exact BK184.out) hb); have n1_ := Aside0.mk (blk_below (g := gb189) (o := .cells #[.int .u32 t185, .int .u32 t186, .int .i64 t187] 24 (0, 0)) (by (with_reducible repeat (first | refine blk_drewN ?_ _ | refine blk_drew ?_ | refine blk_alloc ?_ _)); exact BK189.out) hb); have n2_ := Aside0.mk (below_step (by repeat (first | (with_reducible first | exact HB.out | apply below_alloc | apply pw_below_drewN | apply below_drew1 | refine below_set ?_ GE184.out | refine below_set ?_ GE189.out) | exact HB.out)) hb); clear BK184; clear BK189; clear HB; have BK184 := n0_; have BK189 := n1_; have HB := n2_; clear n0_ n1_ n2_; (try clear hb); (try clear hb2); (try clear hk); (try clear hi); have hcz68_0 : w67.cell? ⟨gb184, 0, none⟩ = some (.int .u32 t180) := (blk_cell BK184.out 0).trans rfl; have hcz68_1 : w67.cell? ⟨gb184, 1, none⟩ = some (.int .u32 t181) := (blk_cell BK184.out 1).trans rfl; have hcz68_2 : w67.cell? ⟨gb184, 2, none⟩ = some (.int .i64 t182) := (blk_cell BK184.out 2).trans rfl; have hfz68_0 := blk_frozen BK184.out 0; have hfz68_1 := blk_frozen BK184.out 1; have hfz68_2 := blk_frozen BK184.out 2) | ((with_reducible refine gate_callee (f := 23) rfl ?_); refine goesL_ (some 108) rfl rfl Try.func23 (by kernel_rfl) rfl #[.agg #[.int .u32 t180, .int .u32 t181, .int .i64 t182], .int .u32 a2, .int .u32 a3] rfl (by (try simp only [List.map_toArray, List.map_cons, List.map_nil]); first | done | rfl | (simp only [List.length_drop, List.length_take]; rfl)) ?_; (with_reducible refine (cell_Where.calls t180 t181 t182 a2 a3 t194 t195 _ A51.out).mono ?_); rintro e w69 ⟨rfl, hb⟩; refine ⟨_, rfl, ?_⟩; have n0_ := Aside0.mk (blk_below (g := gb184) (o := .cells #[.int .u32 t180, .int .u32 t181, .int .i64 t182] 24 (0, 0)) (by (with_reducible repeat (first | refine blk_drewN ?_ _ | refine blk_drew ?_ | refine blk_alloc ?_ _)); exact BK184.out) hb); have n1_ := Aside0.mk (blk_below (g := gb189) (o := .cells #[.int .u32 t185, .int .u32 t186, .int .i64 t187] 24 (0, 0)) (by (with_reducible repeat (first | refine blk_drewN ?_ _ | refine blk_drew ?_ | refine blk_alloc ?_ _)); exact BK189.out) hb); have n2_ := Aside0.mk (below_step (by repeat (first | (with_reducible first | exact HB.out | apply below_alloc | apply pw_below_drewN | apply below_drew1 | refine below_set ?_ GE184.out | refine below_set ?_ GE189.out) | exact HB.out)) hb); clear BK184; clear BK189; clear HB; have BK184 := n0_; have BK189 := n1_; have HB := n2_; clear n0_ n1_ n2_; (try clear hb); (try clear hb2); (try clear hk); (try clear hi)))
                        go_ret
                        exact ⟨by first | rfl | (simp [errW_none, errW_some] <;> rfl) | (simp [*, errW_none, errW_some] <;> rfl), by repeat (first | (with_reducible first | exact HB.out | apply below_alloc | apply pw_below_drewN | apply below_drew1 | refine below_set ?_ GE184.out | refine below_set ?_ GE189.out) | exact HB.out)⟩
                    · replace c52 := Bool.eq_false_iff.mpr c52
                      subst c52
                      have H1 : (some false) = some r := by rw [if_neg (show ¬ (false = true) by decide)] at H; exact H
                      clear H
                      have H := H1
                      clear H1
                      obtain rfl := Option.some.inj H
                      have hnb70 := NB184_189.out
                      have hnc70 := NB189_184.out
                      have hcz71_0 : wc.cell? ⟨gb184, 0, none⟩ = some (.int .u32 t180) := (blk_cell BK184.out 0).trans rfl
                      have hcz71_1 : wc.cell? ⟨gb184, 1, none⟩ = some (.int .u32 t181) := (blk_cell BK184.out 1).trans rfl
                      have hcz71_2 : wc.cell? ⟨gb184, 2, none⟩ = some (.int .i64 t182) := (blk_cell BK184.out 2).trans rfl
                      have hfz71_0 := blk_frozen BK184.out 0
                      have hfz71_1 := blk_frozen BK184.out 1
                      have hfz71_2 := blk_frozen BK184.out 2
                      go_wp2_with (first | ((with_reducible refine gate_callee (f := 23) rfl ?_); refine goesL_ (some 101) rfl rfl Try.func23 (by kernel_rfl) rfl #[.agg #[.int .u32 t180, .int .u32 t181, .int .i64 t182], .int .u32 a0, .int .u32 a1] rfl (by (try simp only [List.map_toArray, List.map_cons, List.map_nil]); first | done | rfl | (simp only [List.length_drop, List.length_take]; rfl)) ?_; (with_reducible refine (cell_Where.calls t180 t181 t182 a0 a1 t192 t193 _ A50.out).mono ?_); rintro e w72 ⟨rfl, hb⟩; refine ⟨_, rfl, ?_⟩; have n0_ := Aside0.mk (blk_below (g := gb184) (o := .cells #[.int .u32 t180, .int .u32 t181, .int .i64 t182] 24 (0, 0)) (by (with_reducible repeat (first | refine blk_drewN ?_ _ | refine blk_drew ?_ | refine blk_alloc ?_ _)); exact BK184.out) hb); have n1_ := Aside0.mk (blk_below (g := gb189) (o := .cells #[.int .u32 t185, .int .u32 t186, .int .i64 t187] 24 (0, 0)) (by (with_reducible repeat (first | refine blk_drewN ?_ _ | refine blk_drew ?_ | refine blk_alloc ?_ _)); exact BK189.out) hb); have n2_ := Aside0.mk (below_step (by repeat (first | (with_reducible first | exact HB.out | apply below_alloc | apply pw_below_drewN | apply below_drew1 | refine below_set ?_ GE184.out | refine below_set ?_ GE189.out) | exact HB.out)) hb); clear BK184; clear BK189; clear HB; have BK184 := n0_; have BK189 := n1_; have HB := n2_; clear n0_ n1_ n2_; (try clear hb); (try clear hb2); (try clear hk); (try clear hi); have hcz73_0 : w72.cell? ⟨gb184, 0, none⟩ = some (.int .u32 t180) := (blk_cell BK184.out 0).trans rfl; have hcz73_1 : w72.cell? ⟨gb184, 1, none⟩ = some (.int .u32 t181) := (blk_cell BK184.out 1).trans rfl; have hcz73_2 : w72.cell? ⟨gb184, 2, none⟩ = some (.int .i64 t182) := (blk_cell BK184.out 2).trans rfl; have hfz73_0 := blk_frozen BK184.out 0; have hfz73_1 := blk_frozen BK184.out 1; have hfz73_2 := blk_frozen BK184.out 2) | ((with_reducible refine gate_callee (f := 23) rfl ?_); refine goesL_ (some 108) rfl rfl Try.func23 (by kernel_rfl) rfl #[.agg #[.int .u32 t180, .int .u32 t181, .int .i64 t182], .int .u32 a2, .int .u32 a3] rfl (by (try simp only [List.map_toArray, List.map_cons, List.map_nil]); first | done | rfl | (simp only [List.length_drop, List.length_take]; rfl)) ?_; (with_reducible refine (cell_Where.calls t180 t181 t182 a2 a3 t194 t195 _ A51.out).mono ?_); rintro e w74 ⟨rfl, hb⟩; refine ⟨_, rfl, ?_⟩; have n0_ := Aside0.mk (blk_below (g := gb184) (o := .cells #[.int .u32 t180, .int .u32 t181, .int .i64 t182] 24 (0, 0)) (by (with_reducible repeat (first | refine blk_drewN ?_ _ | refine blk_drew ?_ | refine blk_alloc ?_ _)); exact BK184.out) hb); have n1_ := Aside0.mk (blk_below (g := gb189) (o := .cells #[.int .u32 t185, .int .u32 t186, .int .i64 t187] 24 (0, 0)) (by (with_reducible repeat (first | refine blk_drewN ?_ _ | refine blk_drew ?_ | refine blk_alloc ?_ _)); exact BK189.out) hb); have n2_ := Aside0.mk (below_step (by repeat (first | (with_reducible first | exact HB.out | apply below_alloc | apply pw_below_drewN | apply below_drew1 | refine below_set ?_ GE184.out | refine below_set ?_ GE189.out) | exact HB.out)) hb); clear BK184; clear BK189; clear HB; have BK184 := n0_; have BK189 := n1_; have HB := n2_; clear n0_ n1_ n2_; (try clear hb); (try clear hb2); (try clear hk); (try clear hi)))
                      go_ret
                      exact ⟨by first | rfl | (simp [errW_none, errW_some] <;> rfl) | (simp [*, errW_none, errW_some] <;> rfl), by repeat (first | (with_reducible first | exact HB.out | apply below_alloc | apply pw_below_drewN | apply below_drew1 | refine below_set ?_ GE184.out | refine below_set ?_ GE189.out) | exact HB.out)⟩

/-- THE ONE PURE STATEMENT of sphragislaw08_CellMeets: yours. -/
def sphragislaw08_CellMeets.Pure : Prop := ∀ (a0 : Int) (a1 : Int) (a2 : Int) (a3 : Int), (Lit.int .u32 a0).wf = true → (Lit.int .u32 a1).wf = true → (Lit.int .u32 a2).wf = true → (Lit.int .u32 a3).wf = true → ∃ k, sphragislaw08_CellMeets.f k a0 a1 a2 a3 = some true
theorem sphragislaw08_CellMeets.walk (P : sphragislaw08_CellMeets.Pure) (a0 : Int) (a1 : Int) (a2 : Int) (a3 : Int) (w : World) (w0 : (Lit.int .u32 a0).wf = true) (w1 : (Lit.int .u32 a1).wf = true) (w2 : (Lit.int .u32 a2).wf = true) (w3 : (Lit.int .u32 a3).wf = true) :
    Calls Try.prog 5 #[.int .u32 a0, .int .u32 a1, .int .u32 a2, .int .u32 a3] w fun e w' => e = .returned (.bool true) ∧ Below w.heap.size w w' := by
  obtain ⟨k, h⟩ := P a0 a1 a2 a3 w0 w1 w2 w3
  refine (sphragislaw08_CellMeets.calls k a0 a1 a2 a3 true w h).mono ?_
  rintro e w' ⟨rfl, hd⟩
  exact ⟨rfl, hd⟩

end Go.Proofs.Ytnpnmbfbdnbeoaa.P

-- Laid by a program of this session: the walk of functions of the translation, for this claim.
import Derived.Test.YtoimgijhekahhaaGreatPx0
import Derived.Test.YtoimgijhekahhaaGreatStep
import Derived.Test.YtoimgijhekahhaaGreatPx13
namespace Go.Proofs.YtoimgijhekahhaaGreat.P
open Go.RowKit Go.Proofs.YtoimgijhekahhaaGreatOwn Go.Proofs.YtoimgijhekahhaaGreatW.PrintWords Go.Proofs.YtoimgijhekahhaaGreatW.PrintLast Go.Proofs.YtoimgijhekahhaaGreatW.PrintMore
attribute [local go_sem] max2_int min2_int max_two min_two max_three min_three max_four min_four
set_option linter.unusedVariables false
set_option linter.unusedSimpArgs false
mutual
def sphragisref09_Round.j0 : Nat → List (S37) → Int → Int → Int → Bool → Option ((List (S37)) × Int)
 | 0, _, _, _, _, _ => none
 | k + 1, x0, x1, x2, x3, x17 => if x17 = true then (some (([] : List (S37)), 2)) else (sphragisref09_Round.l0 k x0 x1 x2 x3 ([] : List (S37)) 0)
def sphragisref09_Round.l0 : Nat → List (S37) → Int → Int → Int → List (S37) → Int → Option ((List (S37)) × Int)
 | 0, _, _, _, _, _, _ => none
 | k + 1, x0, x1, x2, x3, x10, x11 => if x11 < (x0.length : Int) then (if 0 ≤ x11 then ((sphragisref08_Square.f x1 x2 ((rd_T37 x0 x11).f1) ((rd_T37 x0 x11).f2)).bind fun t247 => (if t247 ≤ x3 then (if x10.length < 4398046511104 then (sphragisref09_Round.l0 k x0 x1 x2 x3 (x10 ++ [(⟨(rd_T37 x0 x11).f0, (rd_T37 x0 x11).f1, (rd_T37 x0 x11).f2, (rd_T37 x0 x11).f3⟩ : S37)]) (wrap64 (x11 + 1))) else (none)) else (sphragisref09_Round.l0 k x0 x1 x2 x3 x10 (wrap64 (x11 + 1))))) else (none)) else (some (x10, 0))
end
def sphragisref09_Round.f (k : Nat) (l0 : List (S37)) (a1 : Int) (a2 : Int) (a3 : Int) : Option ((List (S37)) × Int) := if a1 ≥ 2147483648 then (sphragisref09_Round.j0 k l0 a1 a2 a3 true) else (sphragisref09_Round.j0 k l0 a1 a2 a3 (decide (a2 ≥ 2147483648)))
theorem sphragisref09_Round.mono_l : ∀ k, (∀ y0 y1 y2 y3 y4, LeO (sphragisref09_Round.j0 k y0 y1 y2 y3 y4) (sphragisref09_Round.j0 (k + 1) y0 y1 y2 y3 y4)) ∧ (∀ y0 y1 y2 y3 y4 y5, LeO (sphragisref09_Round.l0 k y0 y1 y2 y3 y4 y5) (sphragisref09_Round.l0 (k + 1) y0 y1 y2 y3 y4 y5))
 | 0 => ⟨fun _ _ _ _ _ r h => by simp [sphragisref09_Round.j0] at h, fun _ _ _ _ _ _ r h => by simp [sphragisref09_Round.l0] at h⟩
 | k + 1 => by
  obtain ⟨ih0, ih1⟩ := sphragisref09_Round.mono_l k
  refine ⟨?_, ?_⟩
  ·intro y0 y1 y2 y3 y4
   unfold sphragisref09_Round.j0
   repeat' first
   | (with_reducible exact ih0 _ _ _ _ _)
   | (with_reducible exact ih1 _ _ _ _ _ _)
   | (with_reducible exact LeO.refl _)
   | (with_reducible exact LeO.none _)
   | (with_reducible refine LeO.ite ?_ ?_)
   | (with_reducible refine LeO.bind ?_ (fun _ => ?_))
   | exact ih0 _ _ _ _ _
   | exact ih1 _ _ _ _ _ _
   | exact LeO.none _
   | refine LeO.ite ?_ ?_
   | refine LeO.bind ?_ (fun _ => ?_)
  ·intro y0 y1 y2 y3 y4 y5
   unfold sphragisref09_Round.l0
   repeat' first
   | (with_reducible exact ih0 _ _ _ _ _)
   | (with_reducible exact ih1 _ _ _ _ _ _)
   | (with_reducible exact LeO.refl _)
   | (with_reducible exact LeO.none _)
   | (with_reducible refine LeO.ite ?_ ?_)
   | (with_reducible refine LeO.bind ?_ (fun _ => ?_))
   | exact ih0 _ _ _ _ _
   | exact ih1 _ _ _ _ _ _
   | exact LeO.none _
   | refine LeO.ite ?_ ?_
   | refine LeO.bind ?_ (fun _ => ?_)
theorem sphragisref09_Round.mono : ∀ a0 a1 a2 a3 k, LeO (sphragisref09_Round.f k a0 a1 a2 a3) (sphragisref09_Round.f (k + 1) a0 a1 a2 a3) := by
 intro a0 a1 a2 a3 k
 obtain ⟨ih0, ih1⟩ := sphragisref09_Round.mono_l k
 unfold sphragisref09_Round.f
 repeat' first
   | (with_reducible exact ih0 _ _ _ _ _)
   | (with_reducible exact ih1 _ _ _ _ _ _)
   | (with_reducible exact LeO.refl _)
   | (with_reducible exact LeO.none _)
   | (with_reducible refine LeO.ite ?_ ?_)
   | (with_reducible refine LeO.bind ?_ (fun _ => ?_))
   | exact ih0 _ _ _ _ _
   | exact ih1 _ _ _ _ _ _
   | exact LeO.none _
   | refine LeO.ite ?_ ?_
   | refine LeO.bind ?_ (fun _ => ?_)
def sphragisref09_Round.T7 : Bool × List (List Nat × List Nat) := (true, [([], []), ([], []), ([], []), ([], []), ([2, 3], [2, 3]), ([4], [4]), ([5], [5]), ([], []), ([], []), ([7, 8], [7, 8]), ([9], [9]), ([10], [10]), ([0, 1, 6, 11], [0, 1, 6, 11]), ([], []), ([12, 13], [12, 13])])
def sphragisref09_Round.B7 : List Nat := [0, 0, 0, 0, 12, 28, 60, 0, 0, 384, 896, 1920, 4095, 0, 16383]
theorem sphragisref09_Round.tab7 : rtab .any (opsOf Tryz.f30 7) = sphragisref09_Round.T7 := by kernel_rfl
theorem sphragisref09_Round.bits7 : waitsOk sphragisref09_Round.T7.2 sphragisref09_Round.B7 = true := by kernel_rfl
set_option maxHeartbeats 8000000 in
set_option maxRecDepth 100000 in
theorem sphragisref09_Round.calls (k : Nat) (A0 : Option Addr) (c0 : Nat) (l0 : List (S37)) (a1 : Int) (a2 : Int) (a3 : Int) (r1 : List (S37)) (r2 : Int) (w : World) (hr0 : Kd.C k37 w A0 l0.length l0) (hc0 : l0.length ≤ c0) (h : sphragisref09_Round.f k l0 a1 a2 a3 = some (r1, r2)) :
  Calls Tryz.prog 30 #[.slice A0 l0.length c0, .int .u32 a1, .int .u32 a2, .int .u64 a3] w fun e w' => ∃ v0_ : Value, e = .returned (.tuple #[v0_, .int .i64 r2]) ∧ Kd.R k37 37 w' w.heap.size (fun _ => True) v0_ r1 ∧ Below w.heap.size w w' := by
 have hu37 := Tryz.underlying37
 have HR0 := Aside0.mk hr0
 have HC0 := Aside0.mk hc0
 clear hr0 hc0
 have HB := Aside0.mk (Below.refl w.heap.size w)
 have H : (if a1 ≥ 2147483648 then (sphragisref09_Round.j0 k l0 a1 a2 a3 true) else (sphragisref09_Round.j0 k l0 a1 a2 a3 (decide (a2 ≥ 2147483648)))) = some (r1, r2) := h
 clear h
 have HC5 := Aside0.mk H
 clear H
 go_enter Tryz.func30, Tryz.ntmps30
 go_upto_region 1 with (fail)
 go_cut [17] (fun v17 wc => ∃ (kq : Nat) (x17_4 : Bool), v17 = .bool x17_4 ∧ Aside0 (sphragisref09_Round.j0 kq l0 a1 a2 a3 x17_4 = some (r1, r2)) ∧ Aside0 (kq ≤ k) ∧ Aside0 (Below w.heap.size w wc))
 case first =>
  have H := HC5.out
  clear HC5
  by_cases c6 : a1 ≥ 2147483648
  ·rw [if_pos c6] at H
   have c6b0 : decide (2147483648 ≤ a1) = true := decide_eq_true c6
   clear c6
   (first | rw [c6b0] | (simp only [i64_w, i32_w]; rw [c6b0]) | skip)
   have H' := Aside0.mk H
   clear H
   go_wp2
   go_meet
   case rel => exact ⟨_, (true), (by first | rfl | (simp; done) | (simp [*]; done)), H', ⟨by first | omega | exact Nat.le_refl _⟩, ⟨by repeat (first | (with_reducible first | exact HB.out | apply below_alloc | apply pw_below_drewN | apply below_drew1) | exact HB.out)⟩⟩
  ·rw [if_neg c6] at H
   have c6b0 : decide (2147483648 ≤ a1) = false := decide_eq_false c6
   clear c6
   (first | rw [c6b0] | (simp only [i64_w, i32_w]; rw [c6b0]) | skip)
   have H' := Aside0.mk H
   clear H
   go_wp2
   go_meet
   case rel => exact ⟨_, (decide (a2 ≥ 2147483648)), (by first | rfl | (simp; done) | (simp [*]; done)), H', ⟨by first | omega | exact Nat.le_refl _⟩, ⟨by repeat (first | (with_reducible first | exact HB.out | apply below_alloc | apply pw_below_drewN | apply below_drew1) | exact HB.out)⟩⟩
 case rest =>
  clear HC5
  try clear p2
  try clear c3
  try clear c6
  try clear c6b0
  obtain ⟨kq, x17_4, rfl, HA, HJ4, HB⟩ := hcut
  cases kq with
  | zero => exact absurd HA.out (by simp [sphragisref09_Round.j0])
  | succ kj4 =>
   have H := HA.out
   clear HA
   simp only [sphragisref09_Round.j0] at H
   by_cases c7 : x17_4 = true
   ·subst c7
    have H1 : (some (([] : List (S37)), 2)) = some (r1, r2) := by rw [if_pos rfl] at H; exact H
    clear H
    have H := H1
    clear H1
    simp only [Option.some.injEq, Prod.mk.injEq] at H
    obtain ⟨rfl, rfl⟩ := H
    go_wp2
    go_ret2
    exact ⟨_, by first | rfl | (simp [errW_none, errW_some] <;> rfl) | (simp [*, errW_none, errW_some] <;> rfl), by first | exact Kd.R_nil _ _ _ _ _ | exact Kd.N_nil _ _ _ _ _ | exact Kd.V_nil _ _ _ _ _ | exact Kd.Q_nil _ _ _ _ _ | exact Kd.S_nil _ _ _ _ _, by repeat (first | (with_reducible first | exact HB.out | apply below_alloc | apply pw_below_drewN | apply below_drew1) | exact HB.out)⟩
   ·replace c7 := Bool.eq_false_iff.mpr c7
    subst c7
    have H1 : (sphragisref09_Round.l0 kj4 l0 a1 a2 a3 ([] : List (S37)) 0) = some (r1, r2) := by rw [if_neg (show ¬ (false = true) by decide)] at H; exact H
    clear H
    have H := H1
    clear H1
    have H' := Aside0.mk H
    clear H
    go_wp2
    go_loopg [10, 11] kj4 (fun kq v10 v11 w' => ∃ (x10_2 : List (S37)) (x11_2 : Int), v11 = .int .i64 x11_2 ∧ Aside0 (sphragisref09_Round.l0 kq l0 a1 a2 a3 x10_2 x11_2 = some (r1, r2)) ∧ Aside0 (kq ≤ kj4) ∧ Aside0 (Kd.R k37 37 w' w.heap.size (fun _ => True) v10 x10_2) ∧ Aside0 (Below w.heap.size w w'))
    case atStart => exact ⟨(([] : List (S37))), (0), (by first | rfl | (simp; done) | (simp [*]; done)), H', ⟨Nat.le_refl _⟩, ⟨by first | exact Kd.R_nil _ _ _ _ _ | exact Kd.N_nil _ _ _ _ _ | exact Kd.V_nil _ _ _ _ _ | exact Kd.Q_nil _ _ _ _ _ | exact Kd.S_nil _ _ _ _ _⟩, ⟨by repeat (first | (with_reducible first | exact HB.out | apply below_alloc | apply pw_below_drewN | apply below_drew1) | exact HB.out)⟩⟩
    case round =>
     clear H'
     try clear p2
     try clear c3
     try clear c6
     try clear c6b0
     try clear c7
     try clear p2
     obtain ⟨x10_2, x11_2, rfl, HA, HK2, HO_10, HB⟩ := hrel
     cases gk with
     | zero => exact absurd HA.out (by simp [sphragisref09_Round.l0])
     | succ k2 =>
      have H := HA.out
      clear HA
      simp only [sphragisref09_Round.l0] at H
      by_cases c8 : x11_2 < (l0.length : Int)
      ·rw [if_pos c8] at H
       have c8b0 : decide (x11_2 < (l0.length : Int)) = true := decide_eq_true c8
       clear c8
       by_cases c9 : 0 ≤ x11_2
       ·rw [if_pos c9] at H
        have c9b0 : decide (0 ≤ x11_2) = true := decide_eq_true c9
        clear c9
        replace H := Option.bind_eq_some_iff.mp H
        obtain ⟨t247, A100, H⟩ := H
        replace H : (if t247 ≤ a3 then (if x10_2.length < 4398046511104 then (sphragisref09_Round.l0 k2 l0 a1 a2 a3 (x10_2 ++ [(⟨(rd_T37 l0 x11_2).f0, (rd_T37 l0 x11_2).f1, (rd_T37 l0 x11_2).f2, (rd_T37 l0 x11_2).f3⟩ : S37)]) (wrap64 (x11_2 + 1))) else (none)) else (sphragisref09_Round.l0 k2 l0 a1 a2 a3 x10_2 (wrap64 (x11_2 + 1)))) = some (r1, r2) := H
        have A10 := Aside0.mk A100
        clear A100
        by_cases c11 : t247 ≤ a3
        ·rw [if_pos c11] at H
         have c11b0 : decide (t247 ≤ a3) = true := decide_eq_true c11
         clear c11
         by_cases c12 : x10_2.length < 4398046511104
         ·rw [if_pos c12] at H
          have LMc12 := Aside0.mk c12
          clear c12
          obtain ⟨y249, hy249⟩ : ∃ y_ : List (S37), y_ = (x10_2 ++ [(⟨(rd_T37 l0 x11_2).f0, (rd_T37 l0 x11_2).f1, (rd_T37 l0 x11_2).f2, (rd_T37 l0 x11_2).f3⟩ : S37)]) := ⟨_, rfl⟩
          replace H : (sphragisref09_Round.l0 k2 l0 a1 a2 a3 y249 (wrap64 (x11_2 + 1))) = some (r1, r2) := by first | (rw [hy249]; with_reducible exact H) | (have H2_ := (Option.bind_some _ _).symm.trans H; rw [hy249]; with_reducible exact H2_) | (have H2_ := (Option.bind_some _ _).symm.trans H; with_reducible exact H2_) | with_reducible exact H | (rw [hy249]; exact H) | exact H
          have Ny249 := Aside0.mk hy249
          clear hy249
          have H' := Aside0.mk H
          clear H
          try go_wp2
          have n0_ := Aside0.mk (Kd.R_drew HO_10.out)
          have n1_ := Aside0.mk (below_drew1 HB.out)
          clear HO_10
          clear HB
          have HO_10 := n0_
          have HB := n1_
          clear n0_ n1_
          have p245 : 0 ≤ (x11_2 : Int) := of_decide_eq_true (by first | (with_reducible assumption) | assumption)
          have q245 : x11_2 < (l0.length : Int) := of_decide_eq_true (by first | (with_reducible assumption) | assumption)
          obtain ⟨ad245, e245, hx245_0, hx245_1, hx245_2, hx245_3⟩ := at_T37 HR0.out x11_2 p245 q245
          have hw245_3 := hx245_3
          have hw245_2 := hx245_2
          have hw245_1 := hx245_1
          have hw245_0 := hx245_0
          cases e245
          replace hx245_0 := (HB.out.cell (World.block_lt_of_cell? w _ hx245_0)).trans hx245_0
          replace hx245_1 := (HB.out.cell (World.block_lt_of_cell? w _ hx245_1)).trans hx245_1
          replace hx245_2 := (HB.out.cell (World.block_lt_of_cell? w _ hx245_2)).trans hx245_2
          replace hx245_3 := (HB.out.cell (World.block_lt_of_cell? w _ hx245_3)).trans hx245_3
          replace p245 := eq_true p245
          replace q245 := eq_true q245
          have p246 : 0 ≤ (x11_2 : Int) := of_decide_eq_true (by first | (with_reducible assumption) | assumption)
          have q246 : x11_2 < (l0.length : Int) := of_decide_eq_true (by first | (with_reducible assumption) | assumption)
          obtain ⟨ad246, e246, hx246_0, hx246_1, hx246_2, hx246_3⟩ := at_T37 HR0.out x11_2 p246 q246
          have hw246_3 := hx246_3
          have hw246_2 := hx246_2
          have hw246_1 := hx246_1
          have hw246_0 := hx246_0
          obtain rfl : ad245 = ad246 := (by injection e246)
          replace hx246_0 := (HB.out.cell (World.block_lt_of_cell? w _ hx246_0)).trans hx246_0
          replace hx246_1 := (HB.out.cell (World.block_lt_of_cell? w _ hx246_1)).trans hx246_1
          replace hx246_2 := (HB.out.cell (World.block_lt_of_cell? w _ hx246_2)).trans hx246_2
          replace hx246_3 := (HB.out.cell (World.block_lt_of_cell? w _ hx246_3)).trans hx246_3
          replace p246 := eq_true p246
          replace q246 := eq_true q246
          refine start_ (n := 15) (S := fun w' => w'.cell? (ad245.add ((x11_2).toNat * 4)) = some (.int .u64 ((rd_T37 l0 x11_2).f0)) ∧ w'.cell? ⟨(ad245.add ((x11_2).toNat * 4)).block, (ad245.add ((x11_2).toNat * 4)).off + 1, none⟩ = some (.int .u32 ((rd_T37 l0 x11_2).f1)) ∧ w'.cell? ⟨(ad245.add ((x11_2).toNat * 4)).block, (ad245.add ((x11_2).toNat * 4)).off + 2, none⟩ = some (.int .u32 ((rd_T37 l0 x11_2).f2)) ∧ w'.cell? ⟨(ad245.add ((x11_2).toNat * 4)).block, (ad245.add ((x11_2).toNat * 4)).off + 3, none⟩ = some (.string ((rd_T37 l0 x11_2).f3)) ∧ w'.cell? (ad245.add ((x11_2).toNat * 4)) = some (.int .u64 ((rd_T37 l0 x11_2).f0)) ∧ w'.cell? ⟨(ad245.add ((x11_2).toNat * 4)).block, (ad245.add ((x11_2).toNat * 4)).off + 1, none⟩ = some (.int .u32 ((rd_T37 l0 x11_2).f1)) ∧ w'.cell? ⟨(ad245.add ((x11_2).toNat * 4)).block, (ad245.add ((x11_2).toNat * 4)).off + 2, none⟩ = some (.int .u32 ((rd_T37 l0 x11_2).f2)) ∧ w'.cell? ⟨(ad245.add ((x11_2).toNat * 4)).block, (ad245.add ((x11_2).toNat * 4)).off + 3, none⟩ = some (.string ((rd_T37 l0 x11_2).f3))) (ds := []) #[false, false, false, false, false, false, false, false, false, false, false, false, false, false, false] (by kernel_rfl) rfl rfl ⟨((HB.out.cell (World.block_lt_of_cell? w _ hw245_0)).trans hw245_0), ((HB.out.cell (World.block_lt_of_cell? w _ hw245_1)).trans hw245_1), ((HB.out.cell (World.block_lt_of_cell? w _ hw245_2)).trans hw245_2), ((HB.out.cell (World.block_lt_of_cell? w _ hw245_3)).trans hw245_3), ((HB.out.cell (World.block_lt_of_cell? w _ hw246_0)).trans hw246_0), ((HB.out.cell (World.block_lt_of_cell? w _ hw246_1)).trans hw246_1), ((HB.out.cell (World.block_lt_of_cell? w _ hw246_2)).trans hw246_2), ((HB.out.cell (World.block_lt_of_cell? w _ hw246_3)).trans hw246_3)⟩ (fun hHeld => ?_); refine with_tabW sphragisref09_Round.tab7 sphragisref09_Round.bits7 (fun HT_ HW_ => ?_)
          generalize wr.drew = w13 at HO_10 HB hx245_0 hx245_1 hx245_2 hx245_3 hx246_0 hx246_1 hx246_2 hx246_3 hHeld ⊢
          refine pA 0 HT_ ?_
          refine pA 1 HT_ ?_
          refine pA 2 HT_ ?_
          refine pA 3 HT_ ?_
          refine pA 4 HT_ ?_
          refine pA 5 HT_ ?_
          refine pA 7 HT_ ?_
          refine pA 8 HT_ ?_
          refine pA 9 HT_ ?_
          refine pA 10 HT_ ?_
          refine pA 13 HT_ ?_
          refine tA 6 HT_ HW_ ?_
          refine tA 11 HT_ HW_ ?_
          refine oA 12 HT_ (fun K hK => ?_)
          refine goes_ Tryz.func44 (by kernel_rfl) rfl #[.int .u32 a1, .int .u32 a2, .int .u32 ((rd_T37 l0 x11_2).f1), .int .u32 ((rd_T37 l0 x11_2).f2)] (by rfl) rfl rfl (by (try simp only [List.map_toArray, List.map_cons, List.map_nil]); first | done | rfl | (simp only [List.length_drop, List.length_take]; rfl)) ?_
          with_reducible refine (sphragisref08_Square.calls a1 a2 ((rd_T37 l0 x11_2).f1) ((rd_T37 l0 x11_2).f2) t247 _ A10.out).mono ?_
          rintro e w14 ⟨rfl, hb⟩
          refine ⟨_, rfl, ?_⟩
          have n0_ := Aside0.mk (Kd.R_below (by (with_reducible repeat (first | apply Kd.R_alloc | apply Kd.R_drewN | apply Kd.R_drew)); exact HO_10.out) hb)
          have n1_ := Aside0.mk (below_step (by repeat (first | (with_reducible first | exact HB.out | apply below_alloc | apply pw_below_drewN | apply below_drew1) | exact HB.out)) hb)
          clear HO_10
          clear HB
          have HO_10 := n0_
          have HB := n1_
          clear n0_ n1_
          (try clear hb)
          (try clear hb2)
          (try clear hk)
          (try clear hi)
          refine hK.out _ _ ⟨((HB.out.cell (World.block_lt_of_cell? w _ hw245_0)).trans hw245_0), ((HB.out.cell (World.block_lt_of_cell? w _ hw245_1)).trans hw245_1), ((HB.out.cell (World.block_lt_of_cell? w _ hw245_2)).trans hw245_2), ((HB.out.cell (World.block_lt_of_cell? w _ hw245_3)).trans hw245_3), ((HB.out.cell (World.block_lt_of_cell? w _ hw246_0)).trans hw246_0), ((HB.out.cell (World.block_lt_of_cell? w _ hw246_1)).trans hw246_1), ((HB.out.cell (World.block_lt_of_cell? w _ hw246_2)).trans hw246_2), ((HB.out.cell (World.block_lt_of_cell? w _ hw246_3)).trans hw246_3)⟩ (fun hHeld => ?_)
          clear hK K
          refine norm_ (a' := ?_) ?_ ?_
          rotate_left
          ·show Act.put _ (some 36) _ = _
           simp only [Act.put, List.setIfInBounds_toArray, List.set_cons_zero, List.set_cons_succ, i64_w, i32_w]
           rfl
          refine pA 14 HT_ ?_
          refine done_ (done_of HT_.out (by kernel_rfl)) ?_
          have p248 : 0 ≤ (x11_2 : Int) := of_decide_eq_true (by first | (with_reducible assumption) | assumption)
          have q248 : x11_2 < (l0.length : Int) := of_decide_eq_true (by first | (with_reducible assumption) | assumption)
          obtain ⟨ad248, e248, hx248_0, hx248_1, hx248_2, hx248_3⟩ := at_T37 HR0.out x11_2 p248 q248
          obtain rfl : ad245 = ad248 := (by injection e248)
          replace hx248_0 := (HB.out.cell (World.block_lt_of_cell? w _ hx248_0)).trans hx248_0
          replace hx248_1 := (HB.out.cell (World.block_lt_of_cell? w _ hx248_1)).trans hx248_1
          replace hx248_2 := (HB.out.cell (World.block_lt_of_cell? w _ hx248_2)).trans hx248_2
          replace hx248_3 := (HB.out.cell (World.block_lt_of_cell? w _ hx248_3)).trans hx248_3
          replace p248 := eq_true p248
          replace q248 := eq_true q248
          try go_wp2_with (first | ((with_reducible refine gate_builtin (b := .append) (xs := #[.tmp 39, .tmp 44]) rfl ?_); at_builtin; refine Kd.R_append k37 (w0 := w) w.heap.size rfl (.tmp 39) (.tmp 44) 22 37 (.agg #[(.int .u64 0), (.int .u32 0), (.int .u32 0), (.string ⟨#[]⟩)]) 32 rfl Tryz.underlying22 info37 rfl (by decide) (by omega) u10 x10_2 (⟨(rd_T37 l0 x11_2).f0, (rd_T37 l0 x11_2).f1, (rd_T37 l0 x11_2).f2, (rd_T37 l0 x11_2).f3⟩ : S37) [.int .u64 ((rd_T37 l0 x11_2).f0), .int .u32 ((rd_T37 l0 x11_2).f1), .int .u32 ((rd_T37 l0 x11_2).f2), .string ((rd_T37 l0 x11_2).f3)] (fun _ => True) (fun _ => False) rfl rfl ?aP (fun _ hk => hk.elim) ?aF ?aO ?aB ?aS ?aL ?_; (case aP => exact k37_mkM _ _ _ (⟨(rd_T37 l0 x11_2).f0, (rd_T37 l0 x11_2).f1, (rd_T37 l0 x11_2).f2, (rd_T37 l0 x11_2).f3⟩ : S37)); (case aB => exact (by repeat (first | (with_reducible first | exact HB.out | apply below_alloc | apply pw_below_drewN | apply below_drew1) | exact HB.out))); (case aF => exact (fun _ _ => trivial)); (case aO => exact (by (with_reducible repeat (first | apply Kd.R_alloc | apply Kd.R_drewN | apply Kd.R_drew)); exact HO_10.out)); (case aS => exact (below_size (by repeat (first | (with_reducible first | exact HB.out | apply below_alloc | apply pw_below_drewN | apply below_drew1) | exact HB.out)))); (case aL => have := LMc12.out; omega); intro v250 w15 ho hb hg hat; rw [← Ny249.out] at ho; have n0_ := Aside0.mk (hb); have n1_ := Aside0.mk (ho); clear HB; clear HO_10; have HB := n0_; have HO251 := n1_; clear n0_ n1_; clear ho hb hg hat))
          go_roundg k2
          case measure => have := HJ4.out; have := HK2.out; omega
          case rel => exact ⟨(y249), (wrap64 (x11_2 + 1)), (by first | rfl | (simp; done) | (simp [*]; done)), H', ⟨by have := HJ4.out; have := HK2.out; omega⟩, ⟨by (with_reducible repeat (first | apply Kd.R_alloc | apply Kd.R_drewN | apply Kd.R_drew)); exact HO251.out⟩, ⟨by repeat (first | (with_reducible first | exact HB.out | apply below_alloc | apply pw_below_drewN | apply below_drew1) | exact HB.out)⟩⟩
         ·rw [if_neg c12] at H
          exact absurd H (by simp)
        ·rw [if_neg c11] at H
         have c11b0 : decide (t247 ≤ a3) = false := decide_eq_false c11
         clear c11
         have H' := Aside0.mk H
         clear H
         try go_wp2
         have n0_ := Aside0.mk (Kd.R_drew HO_10.out)
         have n1_ := Aside0.mk (below_drew1 HB.out)
         clear HO_10
         clear HB
         have HO_10 := n0_
         have HB := n1_
         clear n0_ n1_
         have p245 : 0 ≤ (x11_2 : Int) := of_decide_eq_true (by first | (with_reducible assumption) | assumption)
         have q245 : x11_2 < (l0.length : Int) := of_decide_eq_true (by first | (with_reducible assumption) | assumption)
         obtain ⟨ad245, e245, hx245_0, hx245_1, hx245_2, hx245_3⟩ := at_T37 HR0.out x11_2 p245 q245
         have hw245_3 := hx245_3
         have hw245_2 := hx245_2
         have hw245_1 := hx245_1
         have hw245_0 := hx245_0
         cases e245
         replace hx245_0 := (HB.out.cell (World.block_lt_of_cell? w _ hx245_0)).trans hx245_0
         replace hx245_1 := (HB.out.cell (World.block_lt_of_cell? w _ hx245_1)).trans hx245_1
         replace hx245_2 := (HB.out.cell (World.block_lt_of_cell? w _ hx245_2)).trans hx245_2
         replace hx245_3 := (HB.out.cell (World.block_lt_of_cell? w _ hx245_3)).trans hx245_3
         replace p245 := eq_true p245
         replace q245 := eq_true q245
         have p246 : 0 ≤ (x11_2 : Int) := of_decide_eq_true (by first | (with_reducible assumption) | assumption)
         have q246 : x11_2 < (l0.length : Int) := of_decide_eq_true (by first | (with_reducible assumption) | assumption)
         obtain ⟨ad246, e246, hx246_0, hx246_1, hx246_2, hx246_3⟩ := at_T37 HR0.out x11_2 p246 q246
         have hw246_3 := hx246_3
         have hw246_2 := hx246_2
         have hw246_1 := hx246_1
         have hw246_0 := hx246_0
         obtain rfl : ad245 = ad246 := (by injection e246)
         replace hx246_0 := (HB.out.cell (World.block_lt_of_cell? w _ hx246_0)).trans hx246_0
         replace hx246_1 := (HB.out.cell (World.block_lt_of_cell? w _ hx246_1)).trans hx246_1
         replace hx246_2 := (HB.out.cell (World.block_lt_of_cell? w _ hx246_2)).trans hx246_2
         replace hx246_3 := (HB.out.cell (World.block_lt_of_cell? w _ hx246_3)).trans hx246_3
         replace p246 := eq_true p246
         replace q246 := eq_true q246
         refine start_ (n := 15) (S := fun w' => w'.cell? (ad245.add ((x11_2).toNat * 4)) = some (.int .u64 ((rd_T37 l0 x11_2).f0)) ∧ w'.cell? ⟨(ad245.add ((x11_2).toNat * 4)).block, (ad245.add ((x11_2).toNat * 4)).off + 1, none⟩ = some (.int .u32 ((rd_T37 l0 x11_2).f1)) ∧ w'.cell? ⟨(ad245.add ((x11_2).toNat * 4)).block, (ad245.add ((x11_2).toNat * 4)).off + 2, none⟩ = some (.int .u32 ((rd_T37 l0 x11_2).f2)) ∧ w'.cell? ⟨(ad245.add ((x11_2).toNat * 4)).block, (ad245.add ((x11_2).toNat * 4)).off + 3, none⟩ = some (.string ((rd_T37 l0 x11_2).f3)) ∧ w'.cell? (ad245.add ((x11_2).toNat * 4)) = some (.int .u64 ((rd_T37 l0 x11_2).f0)) ∧ w'.cell? ⟨(ad245.add ((x11_2).toNat * 4)).block, (ad245.add ((x11_2).toNat * 4)).off + 1, none⟩ = some (.int .u32 ((rd_T37 l0 x11_2).f1)) ∧ w'.cell? ⟨(ad245.add ((x11_2).toNat * 4)).block, (ad245.add ((x11_2).toNat * 4)).off + 2, none⟩ = some (.int .u32 ((rd_T37 l0 x11_2).f2)) ∧ w'.cell? ⟨(ad245.add ((x11_2).toNat * 4)).block, (ad245.add ((x11_2).toNat * 4)).off + 3, none⟩ = some (.string ((rd_T37 l0 x11_2).f3))) (ds := []) #[false, false, false, false, false, false, false, false, false, false, false, false, false, false, false] (by kernel_rfl) rfl rfl ⟨((HB.out.cell (World.block_lt_of_cell? w _ hw245_0)).trans hw245_0), ((HB.out.cell (World.block_lt_of_cell? w _ hw245_1)).trans hw245_1), ((HB.out.cell (World.block_lt_of_cell? w _ hw245_2)).trans hw245_2), ((HB.out.cell (World.block_lt_of_cell? w _ hw245_3)).trans hw245_3), ((HB.out.cell (World.block_lt_of_cell? w _ hw246_0)).trans hw246_0), ((HB.out.cell (World.block_lt_of_cell? w _ hw246_1)).trans hw246_1), ((HB.out.cell (World.block_lt_of_cell? w _ hw246_2)).trans hw246_2), ((HB.out.cell (World.block_lt_of_cell? w _ hw246_3)).trans hw246_3)⟩ (fun hHeld => ?_); refine with_tabW sphragisref09_Round.tab7 sphragisref09_Round.bits7 (fun HT_ HW_ => ?_)
         generalize wr.drew = w16 at HO_10 HB hx245_0 hx245_1 hx245_2 hx245_3 hx246_0 hx246_1 hx246_2 hx246_3 hHeld ⊢
         refine pA 0 HT_ ?_
         refine pA 1 HT_ ?_
         refine pA 2 HT_ ?_
         refine pA 3 HT_ ?_
         refine pA 4 HT_ ?_
         refine pA 5 HT_ ?_
         refine pA 7 HT_ ?_
         refine pA 8 HT_ ?_
         refine pA 9 HT_ ?_
         refine pA 10 HT_ ?_
         refine pA 13 HT_ ?_
         refine tA 6 HT_ HW_ ?_
         refine tA 11 HT_ HW_ ?_
         refine oA 12 HT_ (fun K hK => ?_)
         refine goes_ Tryz.func44 (by kernel_rfl) rfl #[.int .u32 a1, .int .u32 a2, .int .u32 ((rd_T37 l0 x11_2).f1), .int .u32 ((rd_T37 l0 x11_2).f2)] (by rfl) rfl rfl (by (try simp only [List.map_toArray, List.map_cons, List.map_nil]); first | done | rfl | (simp only [List.length_drop, List.length_take]; rfl)) ?_
         with_reducible refine (sphragisref08_Square.calls a1 a2 ((rd_T37 l0 x11_2).f1) ((rd_T37 l0 x11_2).f2) t247 _ A10.out).mono ?_
         rintro e w17 ⟨rfl, hb⟩
         refine ⟨_, rfl, ?_⟩
         have n0_ := Aside0.mk (Kd.R_below (by (with_reducible repeat (first | apply Kd.R_alloc | apply Kd.R_drewN | apply Kd.R_drew)); exact HO_10.out) hb)
         have n1_ := Aside0.mk (below_step (by repeat (first | (with_reducible first | exact HB.out | apply below_alloc | apply pw_below_drewN | apply below_drew1) | exact HB.out)) hb)
         clear HO_10
         clear HB
         have HO_10 := n0_
         have HB := n1_
         clear n0_ n1_
         (try clear hb)
         (try clear hb2)
         (try clear hk)
         (try clear hi)
         refine hK.out _ _ ⟨((HB.out.cell (World.block_lt_of_cell? w _ hw245_0)).trans hw245_0), ((HB.out.cell (World.block_lt_of_cell? w _ hw245_1)).trans hw245_1), ((HB.out.cell (World.block_lt_of_cell? w _ hw245_2)).trans hw245_2), ((HB.out.cell (World.block_lt_of_cell? w _ hw245_3)).trans hw245_3), ((HB.out.cell (World.block_lt_of_cell? w _ hw246_0)).trans hw246_0), ((HB.out.cell (World.block_lt_of_cell? w _ hw246_1)).trans hw246_1), ((HB.out.cell (World.block_lt_of_cell? w _ hw246_2)).trans hw246_2), ((HB.out.cell (World.block_lt_of_cell? w _ hw246_3)).trans hw246_3)⟩ (fun hHeld => ?_)
         clear hK K
         refine norm_ (a' := ?_) ?_ ?_
         rotate_left
         ·show Act.put _ (some 36) _ = _
          simp only [Act.put, List.setIfInBounds_toArray, List.set_cons_zero, List.set_cons_succ, i64_w, i32_w]
          rfl
         refine pA 14 HT_ ?_
         refine done_ (done_of HT_.out (by kernel_rfl)) ?_
         try go_wp2
         go_roundg k2
         case measure => have := HJ4.out; have := HK2.out; omega
         case rel => exact ⟨(x10_2), (wrap64 (x11_2 + 1)), (by first | rfl | (simp; done) | (simp [*]; done)), H', ⟨by have := HJ4.out; have := HK2.out; omega⟩, ⟨by (with_reducible repeat (first | apply Kd.R_alloc | apply Kd.R_drewN | apply Kd.R_drew)); exact HO_10.out⟩, ⟨by repeat (first | (with_reducible first | exact HB.out | apply below_alloc | apply pw_below_drewN | apply below_drew1) | exact HB.out)⟩⟩
       ·rw [if_neg c9] at H
        exact absurd H (by simp)
      ·rw [if_neg c8] at H
       have c8b0 : decide (x11_2 < (l0.length : Int)) = false := decide_eq_false c8
       clear c8
       simp only [Option.some.injEq, Prod.mk.injEq] at H
       obtain ⟨rfl, rfl⟩ := H
       go_wp2
       go_ret2
       exact ⟨_, by first | rfl | (simp [errW_none, errW_some] <;> rfl) | (simp [*, errW_none, errW_some] <;> rfl), by (with_reducible repeat (first | apply Kd.R_alloc | apply Kd.R_drewN | apply Kd.R_drew)); exact HO_10.out, by repeat (first | (with_reducible first | exact HB.out | apply below_alloc | apply pw_below_drewN | apply below_drew1) | exact HB.out)⟩
end Go.Proofs.YtoimgijhekahhaaGreat.P

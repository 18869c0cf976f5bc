-- Laid by a program of this session: the walk of functions of the translation, for this claim.
import Derived.Test.YtoimgijhekahhaaGreatPx0
import Derived.Test.YtoimgijhekahhaaGreatStep
import Derived.Test.YtoimgijhekahhaaGreatPx301
namespace Go.Proofs.YtoimgijhekahhaaGreat.P
open Go.RowKit Go.Proofs.YtoimgijhekahhaaGreatOwn Go.Proofs.YtoimgijhekahhaaGreatW.PrintWords Go.Proofs.YtoimgijhekahhaaGreatW.PrintLast Go.Proofs.YtoimgijhekahhaaGreatW.PrintMore
attribute [local go_sem] max2_int min2_int max_two min_two max_three min_three max_four min_four
set_option linter.unusedVariables false
set_option linter.unusedSimpArgs false
def quad_Right.l0 : Nat → List (S37) → List (S37) → Int → Int → Option (Bool)
 | 0, _, _, _, _ => none
 | k + 1, x0, x5, x6, x7 => if x7 < x6 then (if 0 ≤ x7 then (if x7 < (x5.length : Int) then ((quad_RightRow.f ((rd_T37 x5 x7).f0) ((rd_T37 x5 x7).f1) ((rd_T37 x5 x7).f2) ((rd_T37 x5 x7).f3)).bind fun t106 => (if t106 = true then (if x7 > 0 then (if 0 ≤ (wrap64 (x7 - 1)) then (if (wrap64 (x7 - 1)) < (x0.length : Int) then (if ((rd_T37 x0 (wrap64 (x7 - 1))).f0) ≥ ((rd_T37 x5 x7).f0) then (some false) else (quad_Right.l0 k x0 x5 x6 (wrap64 (x7 + 1)))) else (none)) else (none)) else (quad_Right.l0 k x0 x5 x6 (wrap64 (x7 + 1)))) else (some false))) else (none)) else (none)) else (some (decide ((x0.length : Int) ≤ 1000)))
def quad_Right.f (k : Nat) (l0 : List (S37)) : Option (Bool) := quad_Right.l0 k l0 l0 (l0.length : Int) 0
theorem quad_Right.mono_l : ∀ k, (∀ y0 y1 y2 y3, LeO (quad_Right.l0 k y0 y1 y2 y3) (quad_Right.l0 (k + 1) y0 y1 y2 y3))
 | 0 => fun _ _ _ _ r h => by simp [quad_Right.l0] at h
 | k + 1 => by
  have ih0 := quad_Right.mono_l k
  ·intro y0 y1 y2 y3
   unfold quad_Right.l0
   repeat' first
   | (with_reducible exact ih0 _ _ _ _)
   | (with_reducible exact LeO.refl _)
   | (with_reducible exact LeO.none _)
   | (with_reducible refine LeO.ite ?_ ?_)
   | (with_reducible refine LeO.bind ?_ (fun _ => ?_))
   | exact ih0 _ _ _ _
   | exact LeO.none _
   | refine LeO.ite ?_ ?_
   | refine LeO.bind ?_ (fun _ => ?_)
theorem quad_Right.mono : ∀ a0 k, LeO (quad_Right.f k a0) (quad_Right.f (k + 1) a0) := by
 intro a0 k
 have ih0 := quad_Right.mono_l k
 unfold quad_Right.f
 repeat' first
   | (with_reducible exact ih0 _ _ _ _)
   | (with_reducible exact LeO.refl _)
   | (with_reducible exact LeO.none _)
   | (with_reducible refine LeO.ite ?_ ?_)
   | (with_reducible refine LeO.bind ?_ (fun _ => ?_))
   | exact ih0 _ _ _ _
   | exact LeO.none _
   | refine LeO.ite ?_ ?_
   | refine LeO.bind ?_ (fun _ => ?_)
def quad_Right.T4 : Bool × List (List Nat × List Nat) := (true, [([], []), ([0], [0]), ([1], [1]), ([2, 1], [2]), ([3], [3]), ([4, 3], [3, 4]), ([5, 3, 3], [3, 5]), ([6], [6]), ([6], [6]), ([8, 6], [6, 8]), ([7, 9, 6], [6, 7, 9]), ([10, 6], [6, 10]), ([11, 6], [6, 11]), ([6], [6]), ([13, 6], [6, 13]), ([12, 14, 6], [6, 12, 14]), ([6, 15, 3], [3, 6, 15]), ([3, 16], [3, 16])])
def quad_Right.B4 : List Nat := [0, 1, 3, 7, 15, 31, 63, 127, 127, 383, 1023, 2047, 4095, 127, 8319, 32767, 65535, 131071]
theorem quad_Right.tab4 : rtab .any (opsOf Tryz.f23 4) = quad_Right.T4 := by kernel_rfl
theorem quad_Right.bits4 : waitsOk quad_Right.T4.2 quad_Right.B4 = true := by kernel_rfl
set_option maxHeartbeats 8000000 in
set_option maxRecDepth 100000 in
theorem quad_Right.calls (k : Nat) (A0 : Option Addr) (c0 : Nat) (l0 : List (S37)) (r : Bool) (w : World) (hr0 : Kd.C k37 w A0 l0.length l0) (hc0 : l0.length ≤ c0) (h : quad_Right.f k l0 = some r) :
  Calls Tryz.prog 23 #[.slice A0 l0.length c0] w fun e w' => e = .returned (.bool r) ∧ Below w.heap.size w w' := by
 have hu37 := Tryz.underlying37
 have HR0 := Aside0.mk hr0
 have HC0 := Aside0.mk hc0
 clear hr0 hc0
 have HB := Aside0.mk (Below.refl w.heap.size w)
 have H : (quad_Right.l0 k l0 l0 (l0.length : Int) 0) = some r := h
 clear h
 have H' := Aside0.mk H
 clear H
 go_enter Tryz.func23, Tryz.ntmps23
 go_wp2
 go_loopg [7] k (fun kq v7 w' => ∃ (x7_1 : Int), v7 = .int .i64 x7_1 ∧ Aside0 (quad_Right.l0 kq l0 l0 (l0.length : Int) x7_1 = some r) ∧ Aside0 (kq ≤ k) ∧ Aside0 (Below w.heap.size w w'))
 case atStart => exact ⟨(0), (by first | rfl | (simp; done) | (simp [*]; done)), H', ⟨Nat.le_refl _⟩, ⟨by repeat (first | (with_reducible first | exact HB.out | apply below_alloc | apply pw_below_drewN | apply below_drew1) | exact HB.out)⟩⟩
 case round =>
  clear H'
  obtain ⟨x7_1, rfl, HA, HK1, HB⟩ := hrel
  cases gk with
  | zero => exact absurd HA.out (by simp [quad_Right.l0])
  | succ k1 =>
   have H := HA.out
   clear HA
   simp only [quad_Right.l0] at H
   by_cases c2 : x7_1 < (l0.length : Int)
   ·rw [if_pos c2] at H
    have c2b0 : decide (x7_1 < (l0.length : Int)) = true := decide_eq_true c2
    clear c2
    by_cases c3 : 0 ≤ x7_1
    ·rw [if_pos c3] at H
     have c3b0 : decide (0 ≤ x7_1) = true := decide_eq_true c3
     clear c3
     by_cases c4 : x7_1 < (l0.length : Int)
     ·rw [if_pos c4] at H
      have c4b0 : decide (x7_1 < (l0.length : Int)) = true := decide_eq_true c4
      clear c4
      replace H := Option.bind_eq_some_iff.mp H
      obtain ⟨t106, A50, H⟩ := H
      replace H : (if t106 = true then (if x7_1 > 0 then (if 0 ≤ (wrap64 (x7_1 - 1)) then (if (wrap64 (x7_1 - 1)) < (l0.length : Int) then (if ((rd_T37 l0 (wrap64 (x7_1 - 1))).f0) ≥ ((rd_T37 l0 x7_1).f0) then (some false) else (quad_Right.l0 k1 l0 l0 (l0.length : Int) (wrap64 (x7_1 + 1)))) else (none)) else (none)) else (quad_Right.l0 k1 l0 l0 (l0.length : Int) (wrap64 (x7_1 + 1)))) else (some false)) = some r := H
      have A5 := Aside0.mk A50
      clear A50
      by_cases c6 : t106 = true
      ·subst c6
       have H1 : (if x7_1 > 0 then (if 0 ≤ (wrap64 (x7_1 - 1)) then (if (wrap64 (x7_1 - 1)) < (l0.length : Int) then (if ((rd_T37 l0 (wrap64 (x7_1 - 1))).f0) ≥ ((rd_T37 l0 x7_1).f0) then (some false) else (quad_Right.l0 k1 l0 l0 (l0.length : Int) (wrap64 (x7_1 + 1)))) else (none)) else (none)) else (quad_Right.l0 k1 l0 l0 (l0.length : Int) (wrap64 (x7_1 + 1)))) = some r := by rw [if_pos rfl] at H; exact H
       clear H
       have H := H1
       clear H1
       by_cases c7 : x7_1 > 0
       ·rw [if_pos c7] at H
        have c7b0 : decide (0 < x7_1) = true := decide_eq_true c7
        clear c7
        obtain ⟨ji8, hji8⟩ : ∃ j_ : Int, (wrap64 (x7_1 - 1)) = j_ := ⟨_, rfl⟩
        replace H : (if 0 ≤ (ji8) then (if (ji8) < (l0.length : Int) then (if ((rd_T37 l0 (ji8)).f0) ≥ ((rd_T37 l0 x7_1).f0) then (some false) else (quad_Right.l0 k1 l0 l0 (l0.length : Int) (wrap64 (x7_1 + 1)))) else (none)) else (none)) = some r := by first | (rw [hji8] at H; exact H) | (simp only [hji8] at H ⊢; exact H)
        (try rw [hji8] at A5)
        have hji8w : (IntKind.i64.wrap (x7_1 - 1)) = ji8 := (i64_w _).trans hji8
        by_cases c9 : 0 ≤ (ji8)
        ·rw [if_pos c9] at H
         have c9b0 : decide (0 ≤ (ji8)) = true := decide_eq_true c9
         clear c9
         by_cases c10 : (ji8) < (l0.length : Int)
         ·rw [if_pos c10] at H
          have c10b0 : decide ((ji8) < (l0.length : Int)) = true := decide_eq_true c10
          clear c10
          by_cases c11 : ((rd_T37 l0 (ji8)).f0) ≥ ((rd_T37 l0 x7_1).f0)
          ·rw [if_pos c11] at H
           have c11b0 : decide (((rd_T37 l0 x7_1).f0) ≤ ((rd_T37 l0 (ji8)).f0)) = true := decide_eq_true c11
           clear c11
           obtain rfl := Option.some.inj H
           have p104 : 0 ≤ (x7_1 : Int) := of_decide_eq_true (by first | (with_reducible assumption) | assumption)
           have q104 : x7_1 < (l0.length : Int) := of_decide_eq_true (by first | (with_reducible assumption) | assumption)
           obtain ⟨ad104, e104, hx104_0, hx104_1, hx104_2, hx104_3⟩ := at_T37 HR0.out x7_1 p104 q104
           cases e104
           replace hx104_0 := (HB.out.cell (World.block_lt_of_cell? w _ hx104_0)).trans hx104_0
           replace hx104_1 := (HB.out.cell (World.block_lt_of_cell? w _ hx104_1)).trans hx104_1
           replace hx104_2 := (HB.out.cell (World.block_lt_of_cell? w _ hx104_2)).trans hx104_2
           replace hx104_3 := (HB.out.cell (World.block_lt_of_cell? w _ hx104_3)).trans hx104_3
           replace p104 := eq_true p104
           replace q104 := eq_true q104
           try go_wp2_with (first | ((with_reducible refine gate_dst (N := 4) rfl ?_); refine box_event ?hg (N := 4) ?hd (cs := #[.int .u64 0, .int .u32 0, .int .u32 0, .string (⟨#[]⟩ : ByteArray)]) (t := 37) ?hr ?_; (case hd => rfl); (case hg => rfl); (case hr => first | (go_simp; done) | (go_simp; rfl)); intro gb105 hg w12 hbox hb; have n0_ := Aside0.mk (below_step (by repeat (first | (with_reducible first | exact HB.out | apply below_alloc | apply pw_below_drewN | apply below_drew1) | exact HB.out)) hb); have n1_ := Aside0.mk (hbox); have n2_ := Aside0.mk ((by rw [hg]; exact (below_size (by repeat (first | (with_reducible first | exact HB.out | apply below_alloc | apply pw_below_drewN | apply below_drew1) | exact HB.out))) : w.heap.size ≤ gb105)); have n3_ := Aside0.mk ((by rw [hg]; exact (below_size (by repeat (first | (with_reducible first | exact HB.out | apply below_alloc | apply pw_below_drewN | apply below_drew1) | exact HB.out))) : w.heap.size ≤ gb105)); clear HB; have HB := n0_; have BK105 := n1_; have GW105 := n2_; have GE105 := n3_; clear n0_ n1_ n2_ n3_; clear hb hbox hg; have hcz13_0 : w12.cell? ⟨gb105, 0, none⟩ = some (.int .u64 0) := (blk_cell BK105.out 0).trans rfl; have hcz13_1 : w12.cell? ⟨gb105, 1, none⟩ = some (.int .u32 0) := (blk_cell BK105.out 1).trans rfl; have hcz13_2 : w12.cell? ⟨gb105, 2, none⟩ = some (.int .u32 0) := (blk_cell BK105.out 2).trans rfl; have hcz13_3 : w12.cell? ⟨gb105, 3, none⟩ = some (.string (⟨#[]⟩ : ByteArray)) := (blk_cell BK105.out 3).trans rfl; have hfz13_0 := blk_frozen BK105.out 0; have hfz13_1 := blk_frozen BK105.out 1; have hfz13_2 := blk_frozen BK105.out 2; have hfz13_3 := blk_frozen BK105.out 3))
           have n0_ : Aside0 (((((w12.setCell ⟨gb105, 0, none⟩ (.int .u64 ((rd_T37 l0 x7_1).f0))).setCell ⟨gb105, 1, none⟩ (.int .u32 ((rd_T37 l0 x7_1).f1))).setCell ⟨gb105, 2, none⟩ (.int .u32 ((rd_T37 l0 x7_1).f2))).setCell ⟨gb105, 3, none⟩ (.string ((rd_T37 l0 x7_1).f3))).heap[gb105]? = some (.cells #[.int .u64 ((rd_T37 l0 x7_1).f0), .int .u32 ((rd_T37 l0 x7_1).f1), .int .u32 ((rd_T37 l0 x7_1).f2), .string ((rd_T37 l0 x7_1).f3)] 37 (0, 0))) := ⟨by (with_reducible repeat (first | refine blk_drewN ?_ _ | refine blk_drew ?_ | refine blk_alloc ?_ _)); refine blk_put (cs := #[.int .u64 ((rd_T37 l0 x7_1).f0), .int .u32 ((rd_T37 l0 x7_1).f1), .int .u32 ((rd_T37 l0 x7_1).f2), .string (⟨#[]⟩ : ByteArray)]) ?_ 3 _ (by first | rfl | (simp; done)); (with_reducible repeat (first | refine blk_drewN ?_ _ | refine blk_drew ?_ | refine blk_alloc ?_ _)); refine blk_put (cs := #[.int .u64 ((rd_T37 l0 x7_1).f0), .int .u32 ((rd_T37 l0 x7_1).f1), .int .u32 0, .string (⟨#[]⟩ : ByteArray)]) ?_ 2 _ (by first | rfl | (simp; done)); (with_reducible repeat (first | refine blk_drewN ?_ _ | refine blk_drew ?_ | refine blk_alloc ?_ _)); refine blk_put (cs := #[.int .u64 ((rd_T37 l0 x7_1).f0), .int .u32 0, .int .u32 0, .string (⟨#[]⟩ : ByteArray)]) ?_ 1 _ (by first | rfl | (simp; done)); (with_reducible repeat (first | refine blk_drewN ?_ _ | refine blk_drew ?_ | refine blk_alloc ?_ _)); refine blk_put (cs := #[.int .u64 0, .int .u32 0, .int .u32 0, .string (⟨#[]⟩ : ByteArray)]) ?_ 0 _ (by first | rfl | (simp; done)); (with_reducible repeat (first | refine blk_drewN ?_ _ | refine blk_drew ?_ | refine blk_alloc ?_ _)); exact BK105.out⟩
           have n1_ : Aside0 (Below w.heap.size w ((((w12.setCell ⟨gb105, 0, none⟩ (.int .u64 ((rd_T37 l0 x7_1).f0))).setCell ⟨gb105, 1, none⟩ (.int .u32 ((rd_T37 l0 x7_1).f1))).setCell ⟨gb105, 2, none⟩ (.int .u32 ((rd_T37 l0 x7_1).f2))).setCell ⟨gb105, 3, none⟩ (.string ((rd_T37 l0 x7_1).f3)))) := ⟨by repeat (first | (with_reducible first | exact HB.out | apply below_alloc | apply pw_below_drewN | apply below_drew1 | refine below_set ?_ GE105.out) | exact HB.out)⟩
           (try clear BK105)
           (try clear HB)
           generalize ((((w12.setCell ⟨gb105, 0, none⟩ (.int .u64 ((rd_T37 l0 x7_1).f0))).setCell ⟨gb105, 1, none⟩ (.int .u32 ((rd_T37 l0 x7_1).f1))).setCell ⟨gb105, 2, none⟩ (.int .u32 ((rd_T37 l0 x7_1).f2))).setCell ⟨gb105, 3, none⟩ (.string ((rd_T37 l0 x7_1).f3))) = w14 at n0_ n1_ ⊢
           have BK105 := n0_
           have HB := n1_
           clear n0_ n1_
           have n0_ := Aside0.mk (blk_drew BK105.out)
           have n1_ := Aside0.mk (below_drew1 HB.out)
           clear BK105
           clear HB
           have BK105 := n0_
           have HB := n1_
           clear n0_ n1_
           have p107 : 0 ≤ ((ji8) : Int) := of_decide_eq_true (by first | (with_reducible assumption) | assumption)
           have q107 : (ji8) < (l0.length : Int) := of_decide_eq_true (by first | (with_reducible assumption) | assumption)
           obtain ⟨ad107, e107, hx107_0, hx107_1, hx107_2, hx107_3⟩ := at_T37 HR0.out (ji8) p107 q107
           have hw107_3 := hx107_3
           have hw107_2 := hx107_2
           have hw107_1 := hx107_1
           have hw107_0 := hx107_0
           obtain rfl : ad104 = ad107 := (by injection e107)
           replace hx107_0 := (HB.out.cell (World.block_lt_of_cell? w _ hx107_0)).trans hx107_0
           replace hx107_1 := (HB.out.cell (World.block_lt_of_cell? w _ hx107_1)).trans hx107_1
           replace hx107_2 := (HB.out.cell (World.block_lt_of_cell? w _ hx107_2)).trans hx107_2
           replace hx107_3 := (HB.out.cell (World.block_lt_of_cell? w _ hx107_3)).trans hx107_3
           replace p107 := eq_true p107
           replace q107 := eq_true q107
           refine start_ (n := 18) (S := fun w' => w'.cell? ⟨gb105, 0, none⟩ = some (.int .u64 ((rd_T37 l0 x7_1).f0)) ∧ w'.cell? ⟨gb105, 1, none⟩ = some (.int .u32 ((rd_T37 l0 x7_1).f1)) ∧ w'.cell? ⟨gb105, 2, none⟩ = some (.int .u32 ((rd_T37 l0 x7_1).f2)) ∧ w'.cell? ⟨gb105, 3, none⟩ = some (.string ((rd_T37 l0 x7_1).f3)) ∧ w'.cell? (ad104.add (((ji8)).toNat * 4)) = some (.int .u64 ((rd_T37 l0 (ji8)).f0)) ∧ w'.cell? ⟨(ad104.add (((ji8)).toNat * 4)).block, (ad104.add (((ji8)).toNat * 4)).off + 1, none⟩ = some (.int .u32 ((rd_T37 l0 (ji8)).f1)) ∧ w'.cell? ⟨(ad104.add (((ji8)).toNat * 4)).block, (ad104.add (((ji8)).toNat * 4)).off + 2, none⟩ = some (.int .u32 ((rd_T37 l0 (ji8)).f2)) ∧ w'.cell? ⟨(ad104.add (((ji8)).toNat * 4)).block, (ad104.add (((ji8)).toNat * 4)).off + 3, none⟩ = some (.string ((rd_T37 l0 (ji8)).f3))) (ds := []) #[false, false, false, false, false, false, false, false, false, false, false, false, false, false, false, false, false, false] (by kernel_rfl) rfl rfl ⟨(blk_cell BK105.out 0).trans rfl, (blk_cell BK105.out 1).trans rfl, (blk_cell BK105.out 2).trans rfl, (blk_cell BK105.out 3).trans rfl, ((HB.out.cell (World.block_lt_of_cell? w _ hw107_0)).trans hw107_0), ((HB.out.cell (World.block_lt_of_cell? w _ hw107_1)).trans hw107_1), ((HB.out.cell (World.block_lt_of_cell? w _ hw107_2)).trans hw107_2), ((HB.out.cell (World.block_lt_of_cell? w _ hw107_3)).trans hw107_3)⟩ (fun hHeld => ?_); refine with_tabW quad_Right.tab4 quad_Right.bits4 (fun HT_ HW_ => ?_)
           generalize w14.drew = w15 at BK105 HB hx107_0 hx107_1 hx107_2 hx107_3 hHeld ⊢
           refine tA 0 HT_ HW_ ?_
           refine oA 1 HT_ (fun K hK => ?_)
           refine goes_ Tryz.func40 (by kernel_rfl) rfl #[.agg #[.int .u64 ((rd_T37 l0 x7_1).f0), .int .u32 ((rd_T37 l0 x7_1).f1), .int .u32 ((rd_T37 l0 x7_1).f2), .string ((rd_T37 l0 x7_1).f3)]] (by rfl) rfl rfl (by (try simp only [List.map_toArray, List.map_cons, List.map_nil]); first | done | rfl | (simp only [List.length_drop, List.length_take]; rfl)) ?_
           with_reducible refine (quad_RightRow.calls ((rd_T37 l0 x7_1).f0) ((rd_T37 l0 x7_1).f1) ((rd_T37 l0 x7_1).f2) ((rd_T37 l0 x7_1).f3) true _ A5.out).mono ?_
           rintro e w16 ⟨rfl, hb⟩
           refine ⟨_, rfl, ?_⟩
           have n0_ := Aside0.mk (blk_below (g := gb105) (o := .cells #[.int .u64 ((rd_T37 l0 x7_1).f0), .int .u32 ((rd_T37 l0 x7_1).f1), .int .u32 ((rd_T37 l0 x7_1).f2), .string ((rd_T37 l0 x7_1).f3)] 37 (0, 0)) (by (with_reducible repeat (first | refine blk_drewN ?_ _ | refine blk_drew ?_ | refine blk_alloc ?_ _)); exact BK105.out) hb)
           have n1_ := Aside0.mk (below_step (by repeat (first | (with_reducible first | exact HB.out | apply below_alloc | apply pw_below_drewN | apply below_drew1 | refine below_set ?_ GE105.out) | exact HB.out)) hb)
           clear BK105
           clear HB
           have BK105 := n0_
           have HB := n1_
           clear n0_ n1_
           (try clear hb)
           (try clear hb2)
           (try clear hk)
           (try clear hi)
           refine hK.out _ _ ⟨(blk_cell BK105.out 0).trans rfl, (blk_cell BK105.out 1).trans rfl, (blk_cell BK105.out 2).trans rfl, (blk_cell BK105.out 3).trans rfl, ((HB.out.cell (World.block_lt_of_cell? w _ hw107_0)).trans hw107_0), ((HB.out.cell (World.block_lt_of_cell? w _ hw107_1)).trans hw107_1), ((HB.out.cell (World.block_lt_of_cell? w _ hw107_2)).trans hw107_2), ((HB.out.cell (World.block_lt_of_cell? w _ hw107_3)).trans hw107_3)⟩ (fun hHeld => ?_)
           clear hK K
           refine norm_ (a' := ?_) ?_ ?_
           rotate_left
           ·show Act.put _ (some 13) _ = _
            simp only [Act.put, List.setIfInBounds_toArray, List.set_cons_zero, List.set_cons_succ, i64_w, i32_w]
            rfl
           refine pA 2 HT_ ?_
           refine pA 3 HT_ ?_
           refine pA 4 HT_ ?_
           refine pA 5 HT_ ?_
           refine pA 6 HT_ ?_
           refine pA 7 HT_ ?_
           refine pA 8 HT_ ?_
           refine pA 9 HT_ ?_
           refine pA 10 HT_ ?_
           refine pA 11 HT_ ?_
           refine pA 13 HT_ ?_
           refine tA 12 HT_ HW_ ?_
           refine tA 14 HT_ HW_ ?_
           refine pA 15 HT_ ?_
           refine pA 16 HT_ ?_
           refine pA 17 HT_ ?_
           refine done_ (done_of HT_.out (by kernel_rfl)) ?_
           try go_wp2
           go_ret
           exact ⟨by first | rfl | (simp [errW_none, errW_some] <;> rfl) | (simp only [← hji8]; first | rfl | (simp [errW_none, errW_some] <;> rfl)) | (simp [*, errW_none, errW_some] <;> rfl), by repeat (first | (with_reducible first | exact HB.out | apply below_alloc | apply pw_below_drewN | apply below_drew1 | refine below_set ?_ GE105.out) | exact HB.out)⟩
          ·rw [if_neg c11] at H
           have c11b0 : decide (((rd_T37 l0 x7_1).f0) ≤ ((rd_T37 l0 (ji8)).f0)) = false := decide_eq_false c11
           clear c11
           have H' := Aside0.mk H
           clear H
           have p104 : 0 ≤ (x7_1 : Int) := of_decide_eq_true (by first | (with_reducible assumption) | assumption)
           have q104 : x7_1 < (l0.length : Int) := of_decide_eq_true (by first | (with_reducible assumption) | assumption)
           obtain ⟨ad104, e104, hx104_0, hx104_1, hx104_2, hx104_3⟩ := at_T37 HR0.out x7_1 p104 q104
           cases e104
           replace hx104_0 := (HB.out.cell (World.block_lt_of_cell? w _ hx104_0)).trans hx104_0
           replace hx104_1 := (HB.out.cell (World.block_lt_of_cell? w _ hx104_1)).trans hx104_1
           replace hx104_2 := (HB.out.cell (World.block_lt_of_cell? w _ hx104_2)).trans hx104_2
           replace hx104_3 := (HB.out.cell (World.block_lt_of_cell? w _ hx104_3)).trans hx104_3
           replace p104 := eq_true p104
           replace q104 := eq_true q104
           try go_wp2_with (first | ((with_reducible refine gate_dst (N := 4) rfl ?_); refine box_event ?hg (N := 4) ?hd (cs := #[.int .u64 0, .int .u32 0, .int .u32 0, .string (⟨#[]⟩ : ByteArray)]) (t := 37) ?hr ?_; (case hd => rfl); (case hg => rfl); (case hr => first | (go_simp; done) | (go_simp; rfl)); intro gb105 hg w17 hbox hb; have n0_ := Aside0.mk (below_step (by repeat (first | (with_reducible first | exact HB.out | apply below_alloc | apply pw_below_drewN | apply below_drew1) | exact HB.out)) hb); have n1_ := Aside0.mk (hbox); have n2_ := Aside0.mk ((by rw [hg]; exact (below_size (by repeat (first | (with_reducible first | exact HB.out | apply below_alloc | apply pw_below_drewN | apply below_drew1) | exact HB.out))) : w.heap.size ≤ gb105)); have n3_ := Aside0.mk ((by rw [hg]; exact (below_size (by repeat (first | (with_reducible first | exact HB.out | apply below_alloc | apply pw_below_drewN | apply below_drew1) | exact HB.out))) : w.heap.size ≤ gb105)); clear HB; have HB := n0_; have BK105 := n1_; have GW105 := n2_; have GE105 := n3_; clear n0_ n1_ n2_ n3_; clear hb hbox hg; have hcz18_0 : w17.cell? ⟨gb105, 0, none⟩ = some (.int .u64 0) := (blk_cell BK105.out 0).trans rfl; have hcz18_1 : w17.cell? ⟨gb105, 1, none⟩ = some (.int .u32 0) := (blk_cell BK105.out 1).trans rfl; have hcz18_2 : w17.cell? ⟨gb105, 2, none⟩ = some (.int .u32 0) := (blk_cell BK105.out 2).trans rfl; have hcz18_3 : w17.cell? ⟨gb105, 3, none⟩ = some (.string (⟨#[]⟩ : ByteArray)) := (blk_cell BK105.out 3).trans rfl; have hfz18_0 := blk_frozen BK105.out 0; have hfz18_1 := blk_frozen BK105.out 1; have hfz18_2 := blk_frozen BK105.out 2; have hfz18_3 := blk_frozen BK105.out 3))
           have n0_ : Aside0 (((((w17.setCell ⟨gb105, 0, none⟩ (.int .u64 ((rd_T37 l0 x7_1).f0))).setCell ⟨gb105, 1, none⟩ (.int .u32 ((rd_T37 l0 x7_1).f1))).setCell ⟨gb105, 2, none⟩ (.int .u32 ((rd_T37 l0 x7_1).f2))).setCell ⟨gb105, 3, none⟩ (.string ((rd_T37 l0 x7_1).f3))).heap[gb105]? = some (.cells #[.int .u64 ((rd_T37 l0 x7_1).f0), .int .u32 ((rd_T37 l0 x7_1).f1), .int .u32 ((rd_T37 l0 x7_1).f2), .string ((rd_T37 l0 x7_1).f3)] 37 (0, 0))) := ⟨by (with_reducible repeat (first | refine blk_drewN ?_ _ | refine blk_drew ?_ | refine blk_alloc ?_ _)); refine blk_put (cs := #[.int .u64 ((rd_T37 l0 x7_1).f0), .int .u32 ((rd_T37 l0 x7_1).f1), .int .u32 ((rd_T37 l0 x7_1).f2), .string (⟨#[]⟩ : ByteArray)]) ?_ 3 _ (by first | rfl | (simp; done)); (with_reducible repeat (first | refine blk_drewN ?_ _ | refine blk_drew ?_ | refine blk_alloc ?_ _)); refine blk_put (cs := #[.int .u64 ((rd_T37 l0 x7_1).f0), .int .u32 ((rd_T37 l0 x7_1).f1), .int .u32 0, .string (⟨#[]⟩ : ByteArray)]) ?_ 2 _ (by first | rfl | (simp; done)); (with_reducible repeat (first | refine blk_drewN ?_ _ | refine blk_drew ?_ | refine blk_alloc ?_ _)); refine blk_put (cs := #[.int .u64 ((rd_T37 l0 x7_1).f0), .int .u32 0, .int .u32 0, .string (⟨#[]⟩ : ByteArray)]) ?_ 1 _ (by first | rfl | (simp; done)); (with_reducible repeat (first | refine blk_drewN ?_ _ | refine blk_drew ?_ | refine blk_alloc ?_ _)); refine blk_put (cs := #[.int .u64 0, .int .u32 0, .int .u32 0, .string (⟨#[]⟩ : ByteArray)]) ?_ 0 _ (by first | rfl | (simp; done)); (with_reducible repeat (first | refine blk_drewN ?_ _ | refine blk_drew ?_ | refine blk_alloc ?_ _)); exact BK105.out⟩
           have n1_ : Aside0 (Below w.heap.size w ((((w17.setCell ⟨gb105, 0, none⟩ (.int .u64 ((rd_T37 l0 x7_1).f0))).setCell ⟨gb105, 1, none⟩ (.int .u32 ((rd_T37 l0 x7_1).f1))).setCell ⟨gb105, 2, none⟩ (.int .u32 ((rd_T37 l0 x7_1).f2))).setCell ⟨gb105, 3, none⟩ (.string ((rd_T37 l0 x7_1).f3)))) := ⟨by repeat (first | (with_reducible first | exact HB.out | apply below_alloc | apply pw_below_drewN | apply below_drew1 | refine below_set ?_ GE105.out) | exact HB.out)⟩
           (try clear BK105)
           (try clear HB)
           generalize ((((w17.setCell ⟨gb105, 0, none⟩ (.int .u64 ((rd_T37 l0 x7_1).f0))).setCell ⟨gb105, 1, none⟩ (.int .u32 ((rd_T37 l0 x7_1).f1))).setCell ⟨gb105, 2, none⟩ (.int .u32 ((rd_T37 l0 x7_1).f2))).setCell ⟨gb105, 3, none⟩ (.string ((rd_T37 l0 x7_1).f3))) = w19 at n0_ n1_ ⊢
           have BK105 := n0_
           have HB := n1_
           clear n0_ n1_
           have n0_ := Aside0.mk (blk_drew BK105.out)
           have n1_ := Aside0.mk (below_drew1 HB.out)
           clear BK105
           clear HB
           have BK105 := n0_
           have HB := n1_
           clear n0_ n1_
           have p107 : 0 ≤ ((ji8) : Int) := of_decide_eq_true (by first | (with_reducible assumption) | assumption)
           have q107 : (ji8) < (l0.length : Int) := of_decide_eq_true (by first | (with_reducible assumption) | assumption)
           obtain ⟨ad107, e107, hx107_0, hx107_1, hx107_2, hx107_3⟩ := at_T37 HR0.out (ji8) p107 q107
           have hw107_3 := hx107_3
           have hw107_2 := hx107_2
           have hw107_1 := hx107_1
           have hw107_0 := hx107_0
           obtain rfl : ad104 = ad107 := (by injection e107)
           replace hx107_0 := (HB.out.cell (World.block_lt_of_cell? w _ hx107_0)).trans hx107_0
           replace hx107_1 := (HB.out.cell (World.block_lt_of_cell? w _ hx107_1)).trans hx107_1
           replace hx107_2 := (HB.out.cell (World.block_lt_of_cell? w _ hx107_2)).trans hx107_2
           replace hx107_3 := (HB.out.cell (World.block_lt_of_cell? w _ hx107_3)).trans hx107_3
           replace p107 := eq_true p107
           replace q107 := eq_true q107
           refine start_ (n := 18) (S := fun w' => w'.cell? ⟨gb105, 0, none⟩ = some (.int .u64 ((rd_T37 l0 x7_1).f0)) ∧ w'.cell? ⟨gb105, 1, none⟩ = some (.int .u32 ((rd_T37 l0 x7_1).f1)) ∧ w'.cell? ⟨gb105, 2, none⟩ = some (.int .u32 ((rd_T37 l0 x7_1).f2)) ∧ w'.cell? ⟨gb105, 3, none⟩ = some (.string ((rd_T37 l0 x7_1).f3)) ∧ w'.cell? (ad104.add (((ji8)).toNat * 4)) = some (.int .u64 ((rd_T37 l0 (ji8)).f0)) ∧ w'.cell? ⟨(ad104.add (((ji8)).toNat * 4)).block, (ad104.add (((ji8)).toNat * 4)).off + 1, none⟩ = some (.int .u32 ((rd_T37 l0 (ji8)).f1)) ∧ w'.cell? ⟨(ad104.add (((ji8)).toNat * 4)).block, (ad104.add (((ji8)).toNat * 4)).off + 2, none⟩ = some (.int .u32 ((rd_T37 l0 (ji8)).f2)) ∧ w'.cell? ⟨(ad104.add (((ji8)).toNat * 4)).block, (ad104.add (((ji8)).toNat * 4)).off + 3, none⟩ = some (.string ((rd_T37 l0 (ji8)).f3))) (ds := []) #[false, false, false, false, false, false, false, false, false, false, false, false, false, false, false, false, false, false] (by kernel_rfl) rfl rfl ⟨(blk_cell BK105.out 0).trans rfl, (blk_cell BK105.out 1).trans rfl, (blk_cell BK105.out 2).trans rfl, (blk_cell BK105.out 3).trans rfl, ((HB.out.cell (World.block_lt_of_cell? w _ hw107_0)).trans hw107_0), ((HB.out.cell (World.block_lt_of_cell? w _ hw107_1)).trans hw107_1), ((HB.out.cell (World.block_lt_of_cell? w _ hw107_2)).trans hw107_2), ((HB.out.cell (World.block_lt_of_cell? w _ hw107_3)).trans hw107_3)⟩ (fun hHeld => ?_); refine with_tabW quad_Right.tab4 quad_Right.bits4 (fun HT_ HW_ => ?_)
           generalize w19.drew = w20 at BK105 HB hx107_0 hx107_1 hx107_2 hx107_3 hHeld ⊢
           refine tA 0 HT_ HW_ ?_
           refine oA 1 HT_ (fun K hK => ?_)
           refine goes_ Tryz.func40 (by kernel_rfl) rfl #[.agg #[.int .u64 ((rd_T37 l0 x7_1).f0), .int .u32 ((rd_T37 l0 x7_1).f1), .int .u32 ((rd_T37 l0 x7_1).f2), .string ((rd_T37 l0 x7_1).f3)]] (by rfl) rfl rfl (by (try simp only [List.map_toArray, List.map_cons, List.map_nil]); first | done | rfl | (simp only [List.length_drop, List.length_take]; rfl)) ?_
           with_reducible refine (quad_RightRow.calls ((rd_T37 l0 x7_1).f0) ((rd_T37 l0 x7_1).f1) ((rd_T37 l0 x7_1).f2) ((rd_T37 l0 x7_1).f3) true _ A5.out).mono ?_
           rintro e w21 ⟨rfl, hb⟩
           refine ⟨_, rfl, ?_⟩
           have n0_ := Aside0.mk (blk_below (g := gb105) (o := .cells #[.int .u64 ((rd_T37 l0 x7_1).f0), .int .u32 ((rd_T37 l0 x7_1).f1), .int .u32 ((rd_T37 l0 x7_1).f2), .string ((rd_T37 l0 x7_1).f3)] 37 (0, 0)) (by (with_reducible repeat (first | refine blk_drewN ?_ _ | refine blk_drew ?_ | refine blk_alloc ?_ _)); exact BK105.out) hb)
           have n1_ := Aside0.mk (below_step (by repeat (first | (with_reducible first | exact HB.out | apply below_alloc | apply pw_below_drewN | apply below_drew1 | refine below_set ?_ GE105.out) | exact HB.out)) hb)
           clear BK105
           clear HB
           have BK105 := n0_
           have HB := n1_
           clear n0_ n1_
           (try clear hb)
           (try clear hb2)
           (try clear hk)
           (try clear hi)
           refine hK.out _ _ ⟨(blk_cell BK105.out 0).trans rfl, (blk_cell BK105.out 1).trans rfl, (blk_cell BK105.out 2).trans rfl, (blk_cell BK105.out 3).trans rfl, ((HB.out.cell (World.block_lt_of_cell? w _ hw107_0)).trans hw107_0), ((HB.out.cell (World.block_lt_of_cell? w _ hw107_1)).trans hw107_1), ((HB.out.cell (World.block_lt_of_cell? w _ hw107_2)).trans hw107_2), ((HB.out.cell (World.block_lt_of_cell? w _ hw107_3)).trans hw107_3)⟩ (fun hHeld => ?_)
           clear hK K
           refine norm_ (a' := ?_) ?_ ?_
           rotate_left
           ·show Act.put _ (some 13) _ = _
            simp only [Act.put, List.setIfInBounds_toArray, List.set_cons_zero, List.set_cons_succ, i64_w, i32_w]
            rfl
           refine pA 2 HT_ ?_
           refine pA 3 HT_ ?_
           refine pA 4 HT_ ?_
           refine pA 5 HT_ ?_
           refine pA 6 HT_ ?_
           refine pA 7 HT_ ?_
           refine pA 8 HT_ ?_
           refine pA 9 HT_ ?_
           refine pA 10 HT_ ?_
           refine pA 11 HT_ ?_
           refine pA 13 HT_ ?_
           refine tA 12 HT_ HW_ ?_
           refine tA 14 HT_ HW_ ?_
           refine pA 15 HT_ ?_
           refine pA 16 HT_ ?_
           refine pA 17 HT_ ?_
           refine done_ (done_of HT_.out (by kernel_rfl)) ?_
           try go_wp2
           go_roundg k1
           case measure => have := HK1.out; omega
           case rel => exact ⟨(wrap64 (x7_1 + 1)), (by first | rfl | (simp; done) | (simp [*]; done)), H', ⟨by have := HK1.out; omega⟩, ⟨by repeat (first | (with_reducible first | exact HB.out | apply below_alloc | apply pw_below_drewN | apply below_drew1 | refine below_set ?_ GE105.out) | exact HB.out)⟩⟩
         ·rw [if_neg c10] at H
          exact absurd H (by simp)
        ·rw [if_neg c9] at H
         exact absurd H (by simp)
       ·rw [if_neg c7] at H
        have c7b0 : decide (0 < x7_1) = false := decide_eq_false c7
        clear c7
        have H' := Aside0.mk H
        clear H
        have p104 : 0 ≤ (x7_1 : Int) := of_decide_eq_true (by first | (with_reducible assumption) | assumption)
        have q104 : x7_1 < (l0.length : Int) := of_decide_eq_true (by first | (with_reducible assumption) | assumption)
        obtain ⟨ad104, e104, hx104_0, hx104_1, hx104_2, hx104_3⟩ := at_T37 HR0.out x7_1 p104 q104
        cases e104
        replace hx104_0 := (HB.out.cell (World.block_lt_of_cell? w _ hx104_0)).trans hx104_0
        replace hx104_1 := (HB.out.cell (World.block_lt_of_cell? w _ hx104_1)).trans hx104_1
        replace hx104_2 := (HB.out.cell (World.block_lt_of_cell? w _ hx104_2)).trans hx104_2
        replace hx104_3 := (HB.out.cell (World.block_lt_of_cell? w _ hx104_3)).trans hx104_3
        replace p104 := eq_true p104
        replace q104 := eq_true q104
        try go_wp2_with (first | ((with_reducible refine gate_dst (N := 4) rfl ?_); refine box_event ?hg (N := 4) ?hd (cs := #[.int .u64 0, .int .u32 0, .int .u32 0, .string (⟨#[]⟩ : ByteArray)]) (t := 37) ?hr ?_; (case hd => rfl); (case hg => rfl); (case hr => first | (go_simp; done) | (go_simp; rfl)); intro gb105 hg w22 hbox hb; have n0_ := Aside0.mk (below_step (by repeat (first | (with_reducible first | exact HB.out | apply below_alloc | apply pw_below_drewN | apply below_drew1) | exact HB.out)) hb); have n1_ := Aside0.mk (hbox); have n2_ := Aside0.mk ((by rw [hg]; exact (below_size (by repeat (first | (with_reducible first | exact HB.out | apply below_alloc | apply pw_below_drewN | apply below_drew1) | exact HB.out))) : w.heap.size ≤ gb105)); have n3_ := Aside0.mk ((by rw [hg]; exact (below_size (by repeat (first | (with_reducible first | exact HB.out | apply below_alloc | apply pw_below_drewN | apply below_drew1) | exact HB.out))) : w.heap.size ≤ gb105)); clear HB; have HB := n0_; have BK105 := n1_; have GW105 := n2_; have GE105 := n3_; clear n0_ n1_ n2_ n3_; clear hb hbox hg; have hcz23_0 : w22.cell? ⟨gb105, 0, none⟩ = some (.int .u64 0) := (blk_cell BK105.out 0).trans rfl; have hcz23_1 : w22.cell? ⟨gb105, 1, none⟩ = some (.int .u32 0) := (blk_cell BK105.out 1).trans rfl; have hcz23_2 : w22.cell? ⟨gb105, 2, none⟩ = some (.int .u32 0) := (blk_cell BK105.out 2).trans rfl; have hcz23_3 : w22.cell? ⟨gb105, 3, none⟩ = some (.string (⟨#[]⟩ : ByteArray)) := (blk_cell BK105.out 3).trans rfl; have hfz23_0 := blk_frozen BK105.out 0; have hfz23_1 := blk_frozen BK105.out 1; have hfz23_2 := blk_frozen BK105.out 2; have hfz23_3 := blk_frozen BK105.out 3))
        have n0_ : Aside0 (((((w22.setCell ⟨gb105, 0, none⟩ (.int .u64 ((rd_T37 l0 x7_1).f0))).setCell ⟨gb105, 1, none⟩ (.int .u32 ((rd_T37 l0 x7_1).f1))).setCell ⟨gb105, 2, none⟩ (.int .u32 ((rd_T37 l0 x7_1).f2))).setCell ⟨gb105, 3, none⟩ (.string ((rd_T37 l0 x7_1).f3))).heap[gb105]? = some (.cells #[.int .u64 ((rd_T37 l0 x7_1).f0), .int .u32 ((rd_T37 l0 x7_1).f1), .int .u32 ((rd_T37 l0 x7_1).f2), .string ((rd_T37 l0 x7_1).f3)] 37 (0, 0))) := ⟨by (with_reducible repeat (first | refine blk_drewN ?_ _ | refine blk_drew ?_ | refine blk_alloc ?_ _)); refine blk_put (cs := #[.int .u64 ((rd_T37 l0 x7_1).f0), .int .u32 ((rd_T37 l0 x7_1).f1), .int .u32 ((rd_T37 l0 x7_1).f2), .string (⟨#[]⟩ : ByteArray)]) ?_ 3 _ (by first | rfl | (simp; done)); (with_reducible repeat (first | refine blk_drewN ?_ _ | refine blk_drew ?_ | refine blk_alloc ?_ _)); refine blk_put (cs := #[.int .u64 ((rd_T37 l0 x7_1).f0), .int .u32 ((rd_T37 l0 x7_1).f1), .int .u32 0, .string (⟨#[]⟩ : ByteArray)]) ?_ 2 _ (by first | rfl | (simp; done)); (with_reducible repeat (first | refine blk_drewN ?_ _ | refine blk_drew ?_ | refine blk_alloc ?_ _)); refine blk_put (cs := #[.int .u64 ((rd_T37 l0 x7_1).f0), .int .u32 0, .int .u32 0, .string (⟨#[]⟩ : ByteArray)]) ?_ 1 _ (by first | rfl | (simp; done)); (with_reducible repeat (first | refine blk_drewN ?_ _ | refine blk_drew ?_ | refine blk_alloc ?_ _)); refine blk_put (cs := #[.int .u64 0, .int .u32 0, .int .u32 0, .string (⟨#[]⟩ : ByteArray)]) ?_ 0 _ (by first | rfl | (simp; done)); (with_reducible repeat (first | refine blk_drewN ?_ _ | refine blk_drew ?_ | refine blk_alloc ?_ _)); exact BK105.out⟩
        have n1_ : Aside0 (Below w.heap.size w ((((w22.setCell ⟨gb105, 0, none⟩ (.int .u64 ((rd_T37 l0 x7_1).f0))).setCell ⟨gb105, 1, none⟩ (.int .u32 ((rd_T37 l0 x7_1).f1))).setCell ⟨gb105, 2, none⟩ (.int .u32 ((rd_T37 l0 x7_1).f2))).setCell ⟨gb105, 3, none⟩ (.string ((rd_T37 l0 x7_1).f3)))) := ⟨by repeat (first | (with_reducible first | exact HB.out | apply below_alloc | apply pw_below_drewN | apply below_drew1 | refine below_set ?_ GE105.out) | exact HB.out)⟩
        (try clear BK105)
        (try clear HB)
        generalize ((((w22.setCell ⟨gb105, 0, none⟩ (.int .u64 ((rd_T37 l0 x7_1).f0))).setCell ⟨gb105, 1, none⟩ (.int .u32 ((rd_T37 l0 x7_1).f1))).setCell ⟨gb105, 2, none⟩ (.int .u32 ((rd_T37 l0 x7_1).f2))).setCell ⟨gb105, 3, none⟩ (.string ((rd_T37 l0 x7_1).f3))) = w24 at n0_ n1_ ⊢
        have BK105 := n0_
        have HB := n1_
        clear n0_ n1_
        have n0_ := Aside0.mk (blk_drew BK105.out)
        have n1_ := Aside0.mk (below_drew1 HB.out)
        clear BK105
        clear HB
        have BK105 := n0_
        have HB := n1_
        clear n0_ n1_
        refine start_ (n := 18) (S := fun w' => w'.cell? ⟨gb105, 0, none⟩ = some (.int .u64 ((rd_T37 l0 x7_1).f0)) ∧ w'.cell? ⟨gb105, 1, none⟩ = some (.int .u32 ((rd_T37 l0 x7_1).f1)) ∧ w'.cell? ⟨gb105, 2, none⟩ = some (.int .u32 ((rd_T37 l0 x7_1).f2)) ∧ w'.cell? ⟨gb105, 3, none⟩ = some (.string ((rd_T37 l0 x7_1).f3))) (ds := []) #[false, false, false, false, false, false, false, false, false, false, false, false, false, false, false, false, false, false] (by kernel_rfl) rfl rfl ⟨(blk_cell BK105.out 0).trans rfl, (blk_cell BK105.out 1).trans rfl, (blk_cell BK105.out 2).trans rfl, (blk_cell BK105.out 3).trans rfl⟩ (fun hHeld => ?_); refine with_tabW quad_Right.tab4 quad_Right.bits4 (fun HT_ HW_ => ?_)
        generalize w24.drew = w25 at BK105 HB hHeld ⊢
        refine tA 0 HT_ HW_ ?_
        refine oA 1 HT_ (fun K hK => ?_)
        refine goes_ Tryz.func40 (by kernel_rfl) rfl #[.agg #[.int .u64 ((rd_T37 l0 x7_1).f0), .int .u32 ((rd_T37 l0 x7_1).f1), .int .u32 ((rd_T37 l0 x7_1).f2), .string ((rd_T37 l0 x7_1).f3)]] (by rfl) rfl rfl (by (try simp only [List.map_toArray, List.map_cons, List.map_nil]); first | done | rfl | (simp only [List.length_drop, List.length_take]; rfl)) ?_
        with_reducible refine (quad_RightRow.calls ((rd_T37 l0 x7_1).f0) ((rd_T37 l0 x7_1).f1) ((rd_T37 l0 x7_1).f2) ((rd_T37 l0 x7_1).f3) true _ A5.out).mono ?_
        rintro e w26 ⟨rfl, hb⟩
        refine ⟨_, rfl, ?_⟩
        have n0_ := Aside0.mk (blk_below (g := gb105) (o := .cells #[.int .u64 ((rd_T37 l0 x7_1).f0), .int .u32 ((rd_T37 l0 x7_1).f1), .int .u32 ((rd_T37 l0 x7_1).f2), .string ((rd_T37 l0 x7_1).f3)] 37 (0, 0)) (by (with_reducible repeat (first | refine blk_drewN ?_ _ | refine blk_drew ?_ | refine blk_alloc ?_ _)); exact BK105.out) hb)
        have n1_ := Aside0.mk (below_step (by repeat (first | (with_reducible first | exact HB.out | apply below_alloc | apply pw_below_drewN | apply below_drew1 | refine below_set ?_ GE105.out) | exact HB.out)) hb)
        clear BK105
        clear HB
        have BK105 := n0_
        have HB := n1_
        clear n0_ n1_
        (try clear hb)
        (try clear hb2)
        (try clear hk)
        (try clear hi)
        refine hK.out _ _ ⟨(blk_cell BK105.out 0).trans rfl, (blk_cell BK105.out 1).trans rfl, (blk_cell BK105.out 2).trans rfl, (blk_cell BK105.out 3).trans rfl⟩ (fun hHeld => ?_)
        clear hK K
        refine norm_ (a' := ?_) ?_ ?_
        rotate_left
        ·show Act.put _ (some 13) _ = _
         simp only [Act.put, List.setIfInBounds_toArray, List.set_cons_zero, List.set_cons_succ, i64_w, i32_w]
         rfl
        refine pA 2 HT_ ?_
        refine pA 3 HT_ ?_
        refine pA 4 HT_ ?_
        refine pA 5 HT_ ?_
        refine pA 6 HT_ ?_
        refine uA 7 HT_ ?_
        refine uA 8 HT_ ?_
        refine uA 9 HT_ ?_
        refine uA 10 HT_ ?_
        refine uA 11 HT_ ?_
        refine uA 12 HT_ ?_
        refine uA 13 HT_ ?_
        refine uA 14 HT_ ?_
        refine uA 15 HT_ ?_
        refine pA 16 HT_ ?_
        refine pA 17 HT_ ?_
        refine done_ (done_of HT_.out (by kernel_rfl)) ?_
        try go_wp2
        go_roundg k1
        case measure => have := HK1.out; omega
        case rel => exact ⟨(wrap64 (x7_1 + 1)), (by first | rfl | (simp; done) | (simp [*]; done)), H', ⟨by have := HK1.out; omega⟩, ⟨by repeat (first | (with_reducible first | exact HB.out | apply below_alloc | apply pw_below_drewN | apply below_drew1 | refine below_set ?_ GE105.out) | exact HB.out)⟩⟩
      ·replace c6 := Bool.eq_false_iff.mpr c6
       subst c6
       have H1 : (some false) = some r := by rw [if_neg (show ¬ (false = true) by decide)] at H; exact H
       clear H
       have H := H1
       clear H1
       obtain rfl := Option.some.inj H
       have p104 : 0 ≤ (x7_1 : Int) := of_decide_eq_true (by first | (with_reducible assumption) | assumption)
       have q104 : x7_1 < (l0.length : Int) := of_decide_eq_true (by first | (with_reducible assumption) | assumption)
       obtain ⟨ad104, e104, hx104_0, hx104_1, hx104_2, hx104_3⟩ := at_T37 HR0.out x7_1 p104 q104
       cases e104
       replace hx104_0 := (HB.out.cell (World.block_lt_of_cell? w _ hx104_0)).trans hx104_0
       replace hx104_1 := (HB.out.cell (World.block_lt_of_cell? w _ hx104_1)).trans hx104_1
       replace hx104_2 := (HB.out.cell (World.block_lt_of_cell? w _ hx104_2)).trans hx104_2
       replace hx104_3 := (HB.out.cell (World.block_lt_of_cell? w _ hx104_3)).trans hx104_3
       replace p104 := eq_true p104
       replace q104 := eq_true q104
       try go_wp2_with (first | ((with_reducible refine gate_dst (N := 4) rfl ?_); refine box_event ?hg (N := 4) ?hd (cs := #[.int .u64 0, .int .u32 0, .int .u32 0, .string (⟨#[]⟩ : ByteArray)]) (t := 37) ?hr ?_; (case hd => rfl); (case hg => rfl); (case hr => first | (go_simp; done) | (go_simp; rfl)); intro gb105 hg w27 hbox hb; have n0_ := Aside0.mk (below_step (by repeat (first | (with_reducible first | exact HB.out | apply below_alloc | apply pw_below_drewN | apply below_drew1) | exact HB.out)) hb); have n1_ := Aside0.mk (hbox); have n2_ := Aside0.mk ((by rw [hg]; exact (below_size (by repeat (first | (with_reducible first | exact HB.out | apply below_alloc | apply pw_below_drewN | apply below_drew1) | exact HB.out))) : w.heap.size ≤ gb105)); have n3_ := Aside0.mk ((by rw [hg]; exact (below_size (by repeat (first | (with_reducible first | exact HB.out | apply below_alloc | apply pw_below_drewN | apply below_drew1) | exact HB.out))) : w.heap.size ≤ gb105)); clear HB; have HB := n0_; have BK105 := n1_; have GW105 := n2_; have GE105 := n3_; clear n0_ n1_ n2_ n3_; clear hb hbox hg; have hcz28_0 : w27.cell? ⟨gb105, 0, none⟩ = some (.int .u64 0) := (blk_cell BK105.out 0).trans rfl; have hcz28_1 : w27.cell? ⟨gb105, 1, none⟩ = some (.int .u32 0) := (blk_cell BK105.out 1).trans rfl; have hcz28_2 : w27.cell? ⟨gb105, 2, none⟩ = some (.int .u32 0) := (blk_cell BK105.out 2).trans rfl; have hcz28_3 : w27.cell? ⟨gb105, 3, none⟩ = some (.string (⟨#[]⟩ : ByteArray)) := (blk_cell BK105.out 3).trans rfl; have hfz28_0 := blk_frozen BK105.out 0; have hfz28_1 := blk_frozen BK105.out 1; have hfz28_2 := blk_frozen BK105.out 2; have hfz28_3 := blk_frozen BK105.out 3))
       have n0_ : Aside0 (((((w27.setCell ⟨gb105, 0, none⟩ (.int .u64 ((rd_T37 l0 x7_1).f0))).setCell ⟨gb105, 1, none⟩ (.int .u32 ((rd_T37 l0 x7_1).f1))).setCell ⟨gb105, 2, none⟩ (.int .u32 ((rd_T37 l0 x7_1).f2))).setCell ⟨gb105, 3, none⟩ (.string ((rd_T37 l0 x7_1).f3))).heap[gb105]? = some (.cells #[.int .u64 ((rd_T37 l0 x7_1).f0), .int .u32 ((rd_T37 l0 x7_1).f1), .int .u32 ((rd_T37 l0 x7_1).f2), .string ((rd_T37 l0 x7_1).f3)] 37 (0, 0))) := ⟨by (with_reducible repeat (first | refine blk_drewN ?_ _ | refine blk_drew ?_ | refine blk_alloc ?_ _)); refine blk_put (cs := #[.int .u64 ((rd_T37 l0 x7_1).f0), .int .u32 ((rd_T37 l0 x7_1).f1), .int .u32 ((rd_T37 l0 x7_1).f2), .string (⟨#[]⟩ : ByteArray)]) ?_ 3 _ (by first | rfl | (simp; done)); (with_reducible repeat (first | refine blk_drewN ?_ _ | refine blk_drew ?_ | refine blk_alloc ?_ _)); refine blk_put (cs := #[.int .u64 ((rd_T37 l0 x7_1).f0), .int .u32 ((rd_T37 l0 x7_1).f1), .int .u32 0, .string (⟨#[]⟩ : ByteArray)]) ?_ 2 _ (by first | rfl | (simp; done)); (with_reducible repeat (first | refine blk_drewN ?_ _ | refine blk_drew ?_ | refine blk_alloc ?_ _)); refine blk_put (cs := #[.int .u64 ((rd_T37 l0 x7_1).f0), .int .u32 0, .int .u32 0, .string (⟨#[]⟩ : ByteArray)]) ?_ 1 _ (by first | rfl | (simp; done)); (with_reducible repeat (first | refine blk_drewN ?_ _ | refine blk_drew ?_ | refine blk_alloc ?_ _)); refine blk_put (cs := #[.int .u64 0, .int .u32 0, .int .u32 0, .string (⟨#[]⟩ : ByteArray)]) ?_ 0 _ (by first | rfl | (simp; done)); (with_reducible repeat (first | refine blk_drewN ?_ _ | refine blk_drew ?_ | refine blk_alloc ?_ _)); exact BK105.out⟩
       have n1_ : Aside0 (Below w.heap.size w ((((w27.setCell ⟨gb105, 0, none⟩ (.int .u64 ((rd_T37 l0 x7_1).f0))).setCell ⟨gb105, 1, none⟩ (.int .u32 ((rd_T37 l0 x7_1).f1))).setCell ⟨gb105, 2, none⟩ (.int .u32 ((rd_T37 l0 x7_1).f2))).setCell ⟨gb105, 3, none⟩ (.string ((rd_T37 l0 x7_1).f3)))) := ⟨by repeat (first | (with_reducible first | exact HB.out | apply below_alloc | apply pw_below_drewN | apply below_drew1 | refine below_set ?_ GE105.out) | exact HB.out)⟩
       (try clear BK105)
       (try clear HB)
       generalize ((((w27.setCell ⟨gb105, 0, none⟩ (.int .u64 ((rd_T37 l0 x7_1).f0))).setCell ⟨gb105, 1, none⟩ (.int .u32 ((rd_T37 l0 x7_1).f1))).setCell ⟨gb105, 2, none⟩ (.int .u32 ((rd_T37 l0 x7_1).f2))).setCell ⟨gb105, 3, none⟩ (.string ((rd_T37 l0 x7_1).f3))) = w29 at n0_ n1_ ⊢
       have BK105 := n0_
       have HB := n1_
       clear n0_ n1_
       have n0_ := Aside0.mk (blk_drew BK105.out)
       have n1_ := Aside0.mk (below_drew1 HB.out)
       clear BK105
       clear HB
       have BK105 := n0_
       have HB := n1_
       clear n0_ n1_
       refine start_ (n := 18) (S := fun w' => w'.cell? ⟨gb105, 0, none⟩ = some (.int .u64 ((rd_T37 l0 x7_1).f0)) ∧ w'.cell? ⟨gb105, 1, none⟩ = some (.int .u32 ((rd_T37 l0 x7_1).f1)) ∧ w'.cell? ⟨gb105, 2, none⟩ = some (.int .u32 ((rd_T37 l0 x7_1).f2)) ∧ w'.cell? ⟨gb105, 3, none⟩ = some (.string ((rd_T37 l0 x7_1).f3))) (ds := []) #[false, false, false, false, false, false, false, false, false, false, false, false, false, false, false, false, false, false] (by kernel_rfl) rfl rfl ⟨(blk_cell BK105.out 0).trans rfl, (blk_cell BK105.out 1).trans rfl, (blk_cell BK105.out 2).trans rfl, (blk_cell BK105.out 3).trans rfl⟩ (fun hHeld => ?_); refine with_tabW quad_Right.tab4 quad_Right.bits4 (fun HT_ HW_ => ?_)
       generalize w29.drew = w30 at BK105 HB hHeld ⊢
       refine tA 0 HT_ HW_ ?_
       refine oA 1 HT_ (fun K hK => ?_)
       refine goes_ Tryz.func40 (by kernel_rfl) rfl #[.agg #[.int .u64 ((rd_T37 l0 x7_1).f0), .int .u32 ((rd_T37 l0 x7_1).f1), .int .u32 ((rd_T37 l0 x7_1).f2), .string ((rd_T37 l0 x7_1).f3)]] (by rfl) rfl rfl (by (try simp only [List.map_toArray, List.map_cons, List.map_nil]); first | done | rfl | (simp only [List.length_drop, List.length_take]; rfl)) ?_
       with_reducible refine (quad_RightRow.calls ((rd_T37 l0 x7_1).f0) ((rd_T37 l0 x7_1).f1) ((rd_T37 l0 x7_1).f2) ((rd_T37 l0 x7_1).f3) false _ A5.out).mono ?_
       rintro e w31 ⟨rfl, hb⟩
       refine ⟨_, rfl, ?_⟩
       have n0_ := Aside0.mk (blk_below (g := gb105) (o := .cells #[.int .u64 ((rd_T37 l0 x7_1).f0), .int .u32 ((rd_T37 l0 x7_1).f1), .int .u32 ((rd_T37 l0 x7_1).f2), .string ((rd_T37 l0 x7_1).f3)] 37 (0, 0)) (by (with_reducible repeat (first | refine blk_drewN ?_ _ | refine blk_drew ?_ | refine blk_alloc ?_ _)); exact BK105.out) hb)
       have n1_ := Aside0.mk (below_step (by repeat (first | (with_reducible first | exact HB.out | apply below_alloc | apply pw_below_drewN | apply below_drew1 | refine below_set ?_ GE105.out) | exact HB.out)) hb)
       clear BK105
       clear HB
       have BK105 := n0_
       have HB := n1_
       clear n0_ n1_
       (try clear hb)
       (try clear hb2)
       (try clear hk)
       (try clear hi)
       refine hK.out _ _ ⟨(blk_cell BK105.out 0).trans rfl, (blk_cell BK105.out 1).trans rfl, (blk_cell BK105.out 2).trans rfl, (blk_cell BK105.out 3).trans rfl⟩ (fun hHeld => ?_)
       clear hK K
       refine norm_ (a' := ?_) ?_ ?_
       rotate_left
       ·show Act.put _ (some 13) _ = _
        simp only [Act.put, List.setIfInBounds_toArray, List.set_cons_zero, List.set_cons_succ, i64_w, i32_w]
        rfl
       refine pA 2 HT_ ?_
       refine pA 3 HT_ ?_
       refine uA 4 HT_ ?_
       refine uA 5 HT_ ?_
       refine uA 6 HT_ ?_
       refine uA 7 HT_ ?_
       refine uA 8 HT_ ?_
       refine uA 9 HT_ ?_
       refine uA 10 HT_ ?_
       refine uA 11 HT_ ?_
       refine uA 12 HT_ ?_
       refine uA 13 HT_ ?_
       refine uA 14 HT_ ?_
       refine uA 15 HT_ ?_
       refine uA 16 HT_ ?_
       refine pA 17 HT_ ?_
       refine done_ (done_of HT_.out (by kernel_rfl)) ?_
       try go_wp2
       go_ret
       exact ⟨by first | rfl | (simp [errW_none, errW_some] <;> rfl) | (simp [*, errW_none, errW_some] <;> rfl), by repeat (first | (with_reducible first | exact HB.out | apply below_alloc | apply pw_below_drewN | apply below_drew1 | refine below_set ?_ GE105.out) | exact HB.out)⟩
     ·rw [if_neg c4] at H
      exact absurd H (by simp)
    ·rw [if_neg c3] at H
     exact absurd H (by simp)
   ·rw [if_neg c2] at H
    have c2b0 : decide (x7_1 < (l0.length : Int)) = false := decide_eq_false c2
    clear c2
    obtain rfl := Option.some.inj H
    go_wp2
    go_ret
    exact ⟨by first | rfl | (simp [errW_none, errW_some] <;> rfl) | (simp [*, errW_none, errW_some] <;> rfl), by repeat (first | (with_reducible first | exact HB.out | apply below_alloc | apply pw_below_drewN | apply below_drew1) | exact HB.out)⟩
end Go.Proofs.YtoimgijhekahhaaGreat.P

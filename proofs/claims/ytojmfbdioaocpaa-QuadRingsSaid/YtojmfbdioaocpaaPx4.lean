-- Laid by a program of this session: the walk of functions of the translation, for this claim.
import Derived.Test.YtojmfbdioaocpaaPx0
namespace Go.Proofs.Ytojmfbdioaocpaa.P
open Go.RowKit Go.Proofs.YtojmfbdioaocpaaOwn Go.Proofs.YtojmfbdioaocpaaW.PrintWords Go.Proofs.YtojmfbdioaocpaaW.PrintLast Go.Proofs.YtojmfbdioaocpaaW.PrintMore
attribute [local go_sem] max2_int min2_int max_two min_two max_three min_three max_four min_four   -- for this text's walks alone
set_option linter.unusedVariables false
set_option linter.unusedSimpArgs false

/-! ### cell_RightBox: function 31 -/
def cell_RightBox.f (a0_0 : Int) (a0_1 : Int) (a0_2 : Int) (a0_3 : Int) : Option (Bool) := if a0_0 ≤ a0_2 then (if a0_1 ≤ a0_3 then (some (decide ((mx a0_2 a0_3) < 2147483648))) else (some false)) else (some false)
set_option maxHeartbeats 8000000 in
set_option maxRecDepth 100000 in
theorem cell_RightBox.calls (a0_0 : Int) (a0_1 : Int) (a0_2 : Int) (a0_3 : Int) (r : Bool) (w : World) (h : cell_RightBox.f a0_0 a0_1 a0_2 a0_3 = some r) :
    Calls Try.prog 31 #[.agg #[.int .u32 a0_0, .int .u32 a0_1, .int .u32 a0_2, .int .u32 a0_3]] w fun e w' => e = .returned (.bool r) ∧ Below w.heap.size w w' := by
  have hu53 := Try.underlying53
  have HB := Aside0.mk (Below.refl w.heap.size w)
  have H : (if a0_0 ≤ a0_2 then (if a0_1 ≤ a0_3 then (some (decide ((mx a0_2 a0_3) < 2147483648))) else (some false)) else (some false)) = some r := h
  clear h
  by_cases c2 : a0_0 ≤ a0_2
  · rw [if_pos c2] at H
    have c2b0 : decide (a0_0 ≤ a0_2) = true := decide_eq_true c2
    clear c2
    by_cases c3 : a0_1 ≤ a0_3
    · rw [if_pos c3] at H
      have c3b0 : decide (a0_1 ≤ a0_3) = true := decide_eq_true c3
      clear c3
      obtain ⟨ji4, hji4⟩ : ∃ j_ : Int, (mx a0_2 a0_3) = j_ := ⟨_, rfl⟩
      replace H : (some (decide ((ji4) < 2147483648))) = some r := by first | (rw [hji4] at H; exact H) | (simp only [hji4] at H ⊢; exact H)
      have hji4_ : (if a0_2 < a0_3 then a0_3 else a0_2) = ji4 := hji4
      obtain rfl := Option.some.inj H
      go_enter Try.func31, Try.ntmps31
      go_wp2_with (first | ((with_reducible refine gate_dst (N := 1) rfl ?_); (try (refine gate_guard (by rfl) ?_; dsimp only)); refine box_event ?hg (N := 1) ?hd (cs := #[.int .u32 a0_0, .int .u32 a0_1, .int .u32 a0_2, .int .u32 a0_3]) (t := 53) ?hr ?_; (case hd => rfl); (case hg => rfl); (case hr => first | (go_simp; done) | (go_simp; rfl)); intro gb106 hg w5 hbox hb; have n0_ := Aside0.mk (below_step (by repeat (first | (with_reducible first | exact HB.out | apply below_alloc | apply pw_below_drewN | apply below_drew1) | exact HB.out)) hb); have n1_ := Aside0.mk (hbox); have n2_ := Aside0.mk ((by rw [hg]; exact (below_size (by repeat (first | (with_reducible first | exact HB.out | apply below_alloc | apply pw_below_drewN | apply below_drew1) | exact HB.out))) : w.heap.size ≤ gb106)); have n3_ := Aside0.mk ((by rw [hg]; exact (below_size (by repeat (first | (with_reducible first | exact HB.out | apply below_alloc | apply pw_below_drewN | apply below_drew1) | exact HB.out))) : w.heap.size ≤ gb106)); clear HB; have HB := n0_; have BK106 := n1_; have GW106 := n2_; have GE106 := n3_; clear n0_ n1_ n2_ n3_; clear hb hbox hg; have hcz6_0 : w5.cell? ⟨gb106, 0, none⟩ = some (.int .u32 a0_0) := (blk_cell BK106.out 0).trans rfl; have hcz6_1 : w5.cell? ⟨gb106, 1, none⟩ = some (.int .u32 a0_1) := (blk_cell BK106.out 1).trans rfl; have hcz6_2 : w5.cell? ⟨gb106, 2, none⟩ = some (.int .u32 a0_2) := (blk_cell BK106.out 2).trans rfl; have hcz6_3 : w5.cell? ⟨gb106, 3, none⟩ = some (.int .u32 a0_3) := (blk_cell BK106.out 3).trans rfl; have hfz6_0 := blk_frozen BK106.out 0; have hfz6_1 := blk_frozen BK106.out 1; have hfz6_2 := blk_frozen BK106.out 2; have hfz6_3 := blk_frozen BK106.out 3))
      go_ret
      exact ⟨by first | rfl | (simp [errW_none, errW_some] <;> rfl) | (simp only [← hji4]; first | rfl | (simp [errW_none, errW_some] <;> rfl)) | (simp [*, errW_none, errW_some] <;> rfl), by repeat (first | (with_reducible first | exact HB.out | apply below_alloc | apply pw_below_drewN | apply below_drew1 | refine below_set ?_ GE106.out) | exact HB.out)⟩
    · rw [if_neg c3] at H
      have c3b0 : decide (a0_1 ≤ a0_3) = false := decide_eq_false c3
      clear c3
      obtain rfl := Option.some.inj H
      go_enter Try.func31, Try.ntmps31
      go_wp2_with (first | ((with_reducible refine gate_dst (N := 1) rfl ?_); (try (refine gate_guard (by rfl) ?_; dsimp only)); refine box_event ?hg (N := 1) ?hd (cs := #[.int .u32 a0_0, .int .u32 a0_1, .int .u32 a0_2, .int .u32 a0_3]) (t := 53) ?hr ?_; (case hd => rfl); (case hg => rfl); (case hr => first | (go_simp; done) | (go_simp; rfl)); intro gb106 hg w7 hbox hb; have n0_ := Aside0.mk (below_step (by repeat (first | (with_reducible first | exact HB.out | apply below_alloc | apply pw_below_drewN | apply below_drew1) | exact HB.out)) hb); have n1_ := Aside0.mk (hbox); have n2_ := Aside0.mk ((by rw [hg]; exact (below_size (by repeat (first | (with_reducible first | exact HB.out | apply below_alloc | apply pw_below_drewN | apply below_drew1) | exact HB.out))) : w.heap.size ≤ gb106)); have n3_ := Aside0.mk ((by rw [hg]; exact (below_size (by repeat (first | (with_reducible first | exact HB.out | apply below_alloc | apply pw_below_drewN | apply below_drew1) | exact HB.out))) : w.heap.size ≤ gb106)); clear HB; have HB := n0_; have BK106 := n1_; have GW106 := n2_; have GE106 := n3_; clear n0_ n1_ n2_ n3_; clear hb hbox hg; have hcz8_0 : w7.cell? ⟨gb106, 0, none⟩ = some (.int .u32 a0_0) := (blk_cell BK106.out 0).trans rfl; have hcz8_1 : w7.cell? ⟨gb106, 1, none⟩ = some (.int .u32 a0_1) := (blk_cell BK106.out 1).trans rfl; have hcz8_2 : w7.cell? ⟨gb106, 2, none⟩ = some (.int .u32 a0_2) := (blk_cell BK106.out 2).trans rfl; have hcz8_3 : w7.cell? ⟨gb106, 3, none⟩ = some (.int .u32 a0_3) := (blk_cell BK106.out 3).trans rfl; have hfz8_0 := blk_frozen BK106.out 0; have hfz8_1 := blk_frozen BK106.out 1; have hfz8_2 := blk_frozen BK106.out 2; have hfz8_3 := blk_frozen BK106.out 3))
      go_ret
      exact ⟨by first | rfl | (simp [errW_none, errW_some] <;> rfl) | (simp [*, errW_none, errW_some] <;> rfl), by repeat (first | (with_reducible first | exact HB.out | apply below_alloc | apply pw_below_drewN | apply below_drew1 | refine below_set ?_ GE106.out) | exact HB.out)⟩
  · rw [if_neg c2] at H
    have c2b0 : decide (a0_0 ≤ a0_2) = false := decide_eq_false c2
    clear c2
    obtain rfl := Option.some.inj H
    go_enter Try.func31, Try.ntmps31
    go_wp2_with (first | ((with_reducible refine gate_dst (N := 1) rfl ?_); (try (refine gate_guard (by rfl) ?_; dsimp only)); refine box_event ?hg (N := 1) ?hd (cs := #[.int .u32 a0_0, .int .u32 a0_1, .int .u32 a0_2, .int .u32 a0_3]) (t := 53) ?hr ?_; (case hd => rfl); (case hg => rfl); (case hr => first | (go_simp; done) | (go_simp; rfl)); intro gb106 hg w9 hbox hb; have n0_ := Aside0.mk (below_step (by repeat (first | (with_reducible first | exact HB.out | apply below_alloc | apply pw_below_drewN | apply below_drew1) | exact HB.out)) hb); have n1_ := Aside0.mk (hbox); have n2_ := Aside0.mk ((by rw [hg]; exact (below_size (by repeat (first | (with_reducible first | exact HB.out | apply below_alloc | apply pw_below_drewN | apply below_drew1) | exact HB.out))) : w.heap.size ≤ gb106)); have n3_ := Aside0.mk ((by rw [hg]; exact (below_size (by repeat (first | (with_reducible first | exact HB.out | apply below_alloc | apply pw_below_drewN | apply below_drew1) | exact HB.out))) : w.heap.size ≤ gb106)); clear HB; have HB := n0_; have BK106 := n1_; have GW106 := n2_; have GE106 := n3_; clear n0_ n1_ n2_ n3_; clear hb hbox hg; have hcz10_0 : w9.cell? ⟨gb106, 0, none⟩ = some (.int .u32 a0_0) := (blk_cell BK106.out 0).trans rfl; have hcz10_1 : w9.cell? ⟨gb106, 1, none⟩ = some (.int .u32 a0_1) := (blk_cell BK106.out 1).trans rfl; have hcz10_2 : w9.cell? ⟨gb106, 2, none⟩ = some (.int .u32 a0_2) := (blk_cell BK106.out 2).trans rfl; have hcz10_3 : w9.cell? ⟨gb106, 3, none⟩ = some (.int .u32 a0_3) := (blk_cell BK106.out 3).trans rfl; have hfz10_0 := blk_frozen BK106.out 0; have hfz10_1 := blk_frozen BK106.out 1; have hfz10_2 := blk_frozen BK106.out 2; have hfz10_3 := blk_frozen BK106.out 3))
    go_ret
    exact ⟨by first | rfl | (simp [errW_none, errW_some] <;> rfl) | (simp [*, errW_none, errW_some] <;> rfl), by repeat (first | (with_reducible first | exact HB.out | apply below_alloc | apply pw_below_drewN | apply below_drew1 | refine below_set ?_ GE106.out) | exact HB.out)⟩

/-! ### cell_In: function 50 -/
def cell_In.f (a0_0 : Int) (a0_1 : Int) (a0_2 : Int) (a0_3 : Int) (a1 : Int) (a2 : Int) : Option (Bool) := (cell_RightBox.f a0_0 a0_1 a0_2 a0_3).bind fun t108 => (if t108 = true then (if a1 ≥ a0_0 then (if a1 ≤ a0_2 then (if a2 ≥ a0_1 then (some (decide (a2 ≤ a0_3))) else (some false)) else (some false)) else (some false)) else (some false))
set_option maxHeartbeats 8000000 in
set_option maxRecDepth 100000 in
theorem cell_In.calls (a0_0 : Int) (a0_1 : Int) (a0_2 : Int) (a0_3 : Int) (a1 : Int) (a2 : Int) (r : Bool) (w : World) (h : cell_In.f a0_0 a0_1 a0_2 a0_3 a1 a2 = some r) :
    Calls Try.prog 50 #[.agg #[.int .u32 a0_0, .int .u32 a0_1, .int .u32 a0_2, .int .u32 a0_3], .int .u32 a1, .int .u32 a2] w fun e w' => e = .returned (.bool r) ∧ Below w.heap.size w w' := by
  have hu53 := Try.underlying53
  have HB := Aside0.mk (Below.refl w.heap.size w)
  have H : ((cell_RightBox.f a0_0 a0_1 a0_2 a0_3).bind fun t108 => (if t108 = true then (if a1 ≥ a0_0 then (if a1 ≤ a0_2 then (if a2 ≥ a0_1 then (some (decide (a2 ≤ a0_3))) else (some false)) else (some false)) else (some false)) else (some false))) = some r := h
  clear h
  replace H := Option.bind_eq_some_iff.mp H
  obtain ⟨t108, A40, H⟩ := H
  replace H : (if t108 = true then (if a1 ≥ a0_0 then (if a1 ≤ a0_2 then (if a2 ≥ a0_1 then (some (decide (a2 ≤ a0_3))) else (some false)) else (some false)) else (some false)) else (some false)) = some r := H
  have A4 := Aside0.mk A40
  clear A40
  by_cases c5 : t108 = true
  · subst c5
    have H1 : (if a1 ≥ a0_0 then (if a1 ≤ a0_2 then (if a2 ≥ a0_1 then (some (decide (a2 ≤ a0_3))) else (some false)) else (some false)) else (some false)) = some r := by rw [if_pos rfl] at H; exact H
    clear H
    have H := H1
    clear H1
    by_cases c6 : a1 ≥ a0_0
    · rw [if_pos c6] at H
      have c6b0 : decide (a0_0 ≤ a1) = true := decide_eq_true c6
      clear c6
      by_cases c7 : a1 ≤ a0_2
      · rw [if_pos c7] at H
        have c7b0 : decide (a1 ≤ a0_2) = true := decide_eq_true c7
        clear c7
        by_cases c8 : a2 ≥ a0_1
        · rw [if_pos c8] at H
          have c8b0 : decide (a0_1 ≤ a2) = true := decide_eq_true c8
          clear c8
          obtain rfl := Option.some.inj H
          go_enter Try.func50, Try.ntmps50
          go_wp2_with (first | ((with_reducible refine gate_dst (N := 3) rfl ?_); refine box_event ?hg (N := 3) ?hd (cs := #[.int .u32 a0_0, .int .u32 a0_1, .int .u32 a0_2, .int .u32 a0_3]) (t := 53) ?hr ?_; (case hd => rfl); (case hg => rfl); (case hr => first | (go_simp; done) | (go_simp; rfl)); intro gb107 hg w9 hbox hb; have n0_ := Aside0.mk (below_step (by repeat (first | (with_reducible first | exact HB.out | apply below_alloc | apply pw_below_drewN | apply below_drew1) | exact HB.out)) hb); have n1_ := Aside0.mk (hbox); have n2_ := Aside0.mk ((by rw [hg]; exact (below_size (by repeat (first | (with_reducible first | exact HB.out | apply below_alloc | apply pw_below_drewN | apply below_drew1) | exact HB.out))) : w.heap.size ≤ gb107)); have n3_ := Aside0.mk ((by rw [hg]; exact (below_size (by repeat (first | (with_reducible first | exact HB.out | apply below_alloc | apply pw_below_drewN | apply below_drew1) | exact HB.out))) : w.heap.size ≤ gb107)); clear HB; have HB := n0_; have BK107 := n1_; have GW107 := n2_; have GE107 := n3_; clear n0_ n1_ n2_ n3_; clear hb hbox hg; have hcz10_0 : w9.cell? ⟨gb107, 0, none⟩ = some (.int .u32 a0_0) := (blk_cell BK107.out 0).trans rfl; have hcz10_1 : w9.cell? ⟨gb107, 1, none⟩ = some (.int .u32 a0_1) := (blk_cell BK107.out 1).trans rfl; have hcz10_2 : w9.cell? ⟨gb107, 2, none⟩ = some (.int .u32 a0_2) := (blk_cell BK107.out 2).trans rfl; have hcz10_3 : w9.cell? ⟨gb107, 3, none⟩ = some (.int .u32 a0_3) := (blk_cell BK107.out 3).trans rfl; have hfz10_0 := blk_frozen BK107.out 0; have hfz10_1 := blk_frozen BK107.out 1; have hfz10_2 := blk_frozen BK107.out 2; have hfz10_3 := blk_frozen BK107.out 3) | ((with_reducible refine gate_callee (f := 31) rfl ?_); refine goesL_ (some 8) rfl rfl Try.func31 (by kernel_rfl) rfl #[.agg #[.int .u32 a0_0, .int .u32 a0_1, .int .u32 a0_2, .int .u32 a0_3]] rfl (by (try simp only [List.map_toArray, List.map_cons, List.map_nil]); first | done | rfl | (simp only [List.length_drop, List.length_take]; rfl)) ?_; (with_reducible refine (cell_RightBox.calls a0_0 a0_1 a0_2 a0_3 true _ A4.out).mono ?_); rintro e w11 ⟨rfl, hb⟩; refine ⟨_, rfl, ?_⟩; have n0_ := Aside0.mk (blk_below (g := gb107) (o := .cells #[.int .u32 a0_0, .int .u32 a0_1, .int .u32 a0_2, .int .u32 a0_3] 53 (0, 0)) (by (with_reducible repeat (first | refine blk_drewN ?_ _ | refine blk_drew ?_ | refine blk_alloc ?_ _)); exact BK107.out) hb); have n1_ := Aside0.mk (below_step (by repeat (first | (with_reducible first | exact HB.out | apply below_alloc | apply pw_below_drewN | apply below_drew1 | refine below_set ?_ GE107.out) | exact HB.out)) hb); clear BK107; clear HB; have BK107 := n0_; have HB := n1_; clear n0_ n1_; (try clear hb); (try clear hb2); (try clear hk); (try clear hi); have hcz12_0 : w11.cell? ⟨gb107, 0, none⟩ = some (.int .u32 a0_0) := (blk_cell BK107.out 0).trans rfl; have hcz12_1 : w11.cell? ⟨gb107, 1, none⟩ = some (.int .u32 a0_1) := (blk_cell BK107.out 1).trans rfl; have hcz12_2 : w11.cell? ⟨gb107, 2, none⟩ = some (.int .u32 a0_2) := (blk_cell BK107.out 2).trans rfl; have hcz12_3 : w11.cell? ⟨gb107, 3, none⟩ = some (.int .u32 a0_3) := (blk_cell BK107.out 3).trans rfl; have hfz12_0 := blk_frozen BK107.out 0; have hfz12_1 := blk_frozen BK107.out 1; have hfz12_2 := blk_frozen BK107.out 2; have hfz12_3 := blk_frozen BK107.out 3))
          go_ret
          exact ⟨by first | rfl | (simp [errW_none, errW_some] <;> rfl) | (simp [*, errW_none, errW_some] <;> rfl), by repeat (first | (with_reducible first | exact HB.out | apply below_alloc | apply pw_below_drewN | apply below_drew1 | refine below_set ?_ GE107.out) | exact HB.out)⟩
        · rw [if_neg c8] at H
          have c8b0 : decide (a0_1 ≤ a2) = false := decide_eq_false c8
          clear c8
          obtain rfl := Option.some.inj H
          go_enter Try.func50, Try.ntmps50
          go_wp2_with (first | ((with_reducible refine gate_dst (N := 3) rfl ?_); refine box_event ?hg (N := 3) ?hd (cs := #[.int .u32 a0_0, .int .u32 a0_1, .int .u32 a0_2, .int .u32 a0_3]) (t := 53) ?hr ?_; (case hd => rfl); (case hg => rfl); (case hr => first | (go_simp; done) | (go_simp; rfl)); intro gb107 hg w13 hbox hb; have n0_ := Aside0.mk (below_step (by repeat (first | (with_reducible first | exact HB.out | apply below_alloc | apply pw_below_drewN | apply below_drew1) | exact HB.out)) hb); have n1_ := Aside0.mk (hbox); have n2_ := Aside0.mk ((by rw [hg]; exact (below_size (by repeat (first | (with_reducible first | exact HB.out | apply below_alloc | apply pw_below_drewN | apply below_drew1) | exact HB.out))) : w.heap.size ≤ gb107)); have n3_ := Aside0.mk ((by rw [hg]; exact (below_size (by repeat (first | (with_reducible first | exact HB.out | apply below_alloc | apply pw_below_drewN | apply below_drew1) | exact HB.out))) : w.heap.size ≤ gb107)); clear HB; have HB := n0_; have BK107 := n1_; have GW107 := n2_; have GE107 := n3_; clear n0_ n1_ n2_ n3_; clear hb hbox hg; have hcz14_0 : w13.cell? ⟨gb107, 0, none⟩ = some (.int .u32 a0_0) := (blk_cell BK107.out 0).trans rfl; have hcz14_1 : w13.cell? ⟨gb107, 1, none⟩ = some (.int .u32 a0_1) := (blk_cell BK107.out 1).trans rfl; have hcz14_2 : w13.cell? ⟨gb107, 2, none⟩ = some (.int .u32 a0_2) := (blk_cell BK107.out 2).trans rfl; have hcz14_3 : w13.cell? ⟨gb107, 3, none⟩ = some (.int .u32 a0_3) := (blk_cell BK107.out 3).trans rfl; have hfz14_0 := blk_frozen BK107.out 0; have hfz14_1 := blk_frozen BK107.out 1; have hfz14_2 := blk_frozen BK107.out 2; have hfz14_3 := blk_frozen BK107.out 3) | ((with_reducible refine gate_callee (f := 31) rfl ?_); refine goesL_ (some 8) rfl rfl Try.func31 (by kernel_rfl) rfl #[.agg #[.int .u32 a0_0, .int .u32 a0_1, .int .u32 a0_2, .int .u32 a0_3]] rfl (by (try simp only [List.map_toArray, List.map_cons, List.map_nil]); first | done | rfl | (simp only [List.length_drop, List.length_take]; rfl)) ?_; (with_reducible refine (cell_RightBox.calls a0_0 a0_1 a0_2 a0_3 true _ A4.out).mono ?_); rintro e w15 ⟨rfl, hb⟩; refine ⟨_, rfl, ?_⟩; have n0_ := Aside0.mk (blk_below (g := gb107) (o := .cells #[.int .u32 a0_0, .int .u32 a0_1, .int .u32 a0_2, .int .u32 a0_3] 53 (0, 0)) (by (with_reducible repeat (first | refine blk_drewN ?_ _ | refine blk_drew ?_ | refine blk_alloc ?_ _)); exact BK107.out) hb); have n1_ := Aside0.mk (below_step (by repeat (first | (with_reducible first | exact HB.out | apply below_alloc | apply pw_below_drewN | apply below_drew1 | refine below_set ?_ GE107.out) | exact HB.out)) hb); clear BK107; clear HB; have BK107 := n0_; have HB := n1_; clear n0_ n1_; (try clear hb); (try clear hb2); (try clear hk); (try clear hi); have hcz16_0 : w15.cell? ⟨gb107, 0, none⟩ = some (.int .u32 a0_0) := (blk_cell BK107.out 0).trans rfl; have hcz16_1 : w15.cell? ⟨gb107, 1, none⟩ = some (.int .u32 a0_1) := (blk_cell BK107.out 1).trans rfl; have hcz16_2 : w15.cell? ⟨gb107, 2, none⟩ = some (.int .u32 a0_2) := (blk_cell BK107.out 2).trans rfl; have hcz16_3 : w15.cell? ⟨gb107, 3, none⟩ = some (.int .u32 a0_3) := (blk_cell BK107.out 3).trans rfl; have hfz16_0 := blk_frozen BK107.out 0; have hfz16_1 := blk_frozen BK107.out 1; have hfz16_2 := blk_frozen BK107.out 2; have hfz16_3 := blk_frozen BK107.out 3))
          go_ret
          exact ⟨by first | rfl | (simp [errW_none, errW_some] <;> rfl) | (simp [*, errW_none, errW_some] <;> rfl), by repeat (first | (with_reducible first | exact HB.out | apply below_alloc | apply pw_below_drewN | apply below_drew1 | refine below_set ?_ GE107.out) | exact HB.out)⟩
      · rw [if_neg c7] at H
        have c7b0 : decide (a1 ≤ a0_2) = false := decide_eq_false c7
        clear c7
        obtain rfl := Option.some.inj H
        go_enter Try.func50, Try.ntmps50
        go_wp2_with (first | ((with_reducible refine gate_dst (N := 3) rfl ?_); refine box_event ?hg (N := 3) ?hd (cs := #[.int .u32 a0_0, .int .u32 a0_1, .int .u32 a0_2, .int .u32 a0_3]) (t := 53) ?hr ?_; (case hd => rfl); (case hg => rfl); (case hr => first | (go_simp; done) | (go_simp; rfl)); intro gb107 hg w17 hbox hb; have n0_ := Aside0.mk (below_step (by repeat (first | (with_reducible first | exact HB.out | apply below_alloc | apply pw_below_drewN | apply below_drew1) | exact HB.out)) hb); have n1_ := Aside0.mk (hbox); have n2_ := Aside0.mk ((by rw [hg]; exact (below_size (by repeat (first | (with_reducible first | exact HB.out | apply below_alloc | apply pw_below_drewN | apply below_drew1) | exact HB.out))) : w.heap.size ≤ gb107)); have n3_ := Aside0.mk ((by rw [hg]; exact (below_size (by repeat (first | (with_reducible first | exact HB.out | apply below_alloc | apply pw_below_drewN | apply below_drew1) | exact HB.out))) : w.heap.size ≤ gb107)); clear HB; have HB := n0_; have BK107 := n1_; have GW107 := n2_; have GE107 := n3_; clear n0_ n1_ n2_ n3_; clear hb hbox hg; have hcz18_0 : w17.cell? ⟨gb107, 0, none⟩ = some (.int .u32 a0_0) := (blk_cell BK107.out 0).trans rfl; have hcz18_1 : w17.cell? ⟨gb107, 1, none⟩ = some (.int .u32 a0_1) := (blk_cell BK107.out 1).trans rfl; have hcz18_2 : w17.cell? ⟨gb107, 2, none⟩ = some (.int .u32 a0_2) := (blk_cell BK107.out 2).trans rfl; have hcz18_3 : w17.cell? ⟨gb107, 3, none⟩ = some (.int .u32 a0_3) := (blk_cell BK107.out 3).trans rfl; have hfz18_0 := blk_frozen BK107.out 0; have hfz18_1 := blk_frozen BK107.out 1; have hfz18_2 := blk_frozen BK107.out 2; have hfz18_3 := blk_frozen BK107.out 3) | ((with_reducible refine gate_callee (f := 31) rfl ?_); refine goesL_ (some 8) rfl rfl Try.func31 (by kernel_rfl) rfl #[.agg #[.int .u32 a0_0, .int .u32 a0_1, .int .u32 a0_2, .int .u32 a0_3]] rfl (by (try simp only [List.map_toArray, List.map_cons, List.map_nil]); first | done | rfl | (simp only [List.length_drop, List.length_take]; rfl)) ?_; (with_reducible refine (cell_RightBox.calls a0_0 a0_1 a0_2 a0_3 true _ A4.out).mono ?_); rintro e w19 ⟨rfl, hb⟩; refine ⟨_, rfl, ?_⟩; have n0_ := Aside0.mk (blk_below (g := gb107) (o := .cells #[.int .u32 a0_0, .int .u32 a0_1, .int .u32 a0_2, .int .u32 a0_3] 53 (0, 0)) (by (with_reducible repeat (first | refine blk_drewN ?_ _ | refine blk_drew ?_ | refine blk_alloc ?_ _)); exact BK107.out) hb); have n1_ := Aside0.mk (below_step (by repeat (first | (with_reducible first | exact HB.out | apply below_alloc | apply pw_below_drewN | apply below_drew1 | refine below_set ?_ GE107.out) | exact HB.out)) hb); clear BK107; clear HB; have BK107 := n0_; have HB := n1_; clear n0_ n1_; (try clear hb); (try clear hb2); (try clear hk); (try clear hi); have hcz20_0 : w19.cell? ⟨gb107, 0, none⟩ = some (.int .u32 a0_0) := (blk_cell BK107.out 0).trans rfl; have hcz20_1 : w19.cell? ⟨gb107, 1, none⟩ = some (.int .u32 a0_1) := (blk_cell BK107.out 1).trans rfl; have hcz20_2 : w19.cell? ⟨gb107, 2, none⟩ = some (.int .u32 a0_2) := (blk_cell BK107.out 2).trans rfl; have hcz20_3 : w19.cell? ⟨gb107, 3, none⟩ = some (.int .u32 a0_3) := (blk_cell BK107.out 3).trans rfl; have hfz20_0 := blk_frozen BK107.out 0; have hfz20_1 := blk_frozen BK107.out 1; have hfz20_2 := blk_frozen BK107.out 2; have hfz20_3 := blk_frozen BK107.out 3))
        go_ret
        exact ⟨by first | rfl | (simp [errW_none, errW_some] <;> rfl) | (simp [*, errW_none, errW_some] <;> rfl), by repeat (first | (with_reducible first | exact HB.out | apply below_alloc | apply pw_below_drewN | apply below_drew1 | refine below_set ?_ GE107.out) | exact HB.out)⟩
    · rw [if_neg c6] at H
      have c6b0 : decide (a0_0 ≤ a1) = false := decide_eq_false c6
      clear c6
      obtain rfl := Option.some.inj H
      go_enter Try.func50, Try.ntmps50
      go_wp2_with (first | ((with_reducible refine gate_dst (N := 3) rfl ?_); refine box_event ?hg (N := 3) ?hd (cs := #[.int .u32 a0_0, .int .u32 a0_1, .int .u32 a0_2, .int .u32 a0_3]) (t := 53) ?hr ?_; (case hd => rfl); (case hg => rfl); (case hr => first | (go_simp; done) | (go_simp; rfl)); intro gb107 hg w21 hbox hb; have n0_ := Aside0.mk (below_step (by repeat (first | (with_reducible first | exact HB.out | apply below_alloc | apply pw_below_drewN | apply below_drew1) | exact HB.out)) hb); have n1_ := Aside0.mk (hbox); have n2_ := Aside0.mk ((by rw [hg]; exact (below_size (by repeat (first | (with_reducible first | exact HB.out | apply below_alloc | apply pw_below_drewN | apply below_drew1) | exact HB.out))) : w.heap.size ≤ gb107)); have n3_ := Aside0.mk ((by rw [hg]; exact (below_size (by repeat (first | (with_reducible first | exact HB.out | apply below_alloc | apply pw_below_drewN | apply below_drew1) | exact HB.out))) : w.heap.size ≤ gb107)); clear HB; have HB := n0_; have BK107 := n1_; have GW107 := n2_; have GE107 := n3_; clear n0_ n1_ n2_ n3_; clear hb hbox hg; have hcz22_0 : w21.cell? ⟨gb107, 0, none⟩ = some (.int .u32 a0_0) := (blk_cell BK107.out 0).trans rfl; have hcz22_1 : w21.cell? ⟨gb107, 1, none⟩ = some (.int .u32 a0_1) := (blk_cell BK107.out 1).trans rfl; have hcz22_2 : w21.cell? ⟨gb107, 2, none⟩ = some (.int .u32 a0_2) := (blk_cell BK107.out 2).trans rfl; have hcz22_3 : w21.cell? ⟨gb107, 3, none⟩ = some (.int .u32 a0_3) := (blk_cell BK107.out 3).trans rfl; have hfz22_0 := blk_frozen BK107.out 0; have hfz22_1 := blk_frozen BK107.out 1; have hfz22_2 := blk_frozen BK107.out 2; have hfz22_3 := blk_frozen BK107.out 3) | ((with_reducible refine gate_callee (f := 31) rfl ?_); refine goesL_ (some 8) rfl rfl Try.func31 (by kernel_rfl) rfl #[.agg #[.int .u32 a0_0, .int .u32 a0_1, .int .u32 a0_2, .int .u32 a0_3]] rfl (by (try simp only [List.map_toArray, List.map_cons, List.map_nil]); first | done | rfl | (simp only [List.length_drop, List.length_take]; rfl)) ?_; (with_reducible refine (cell_RightBox.calls a0_0 a0_1 a0_2 a0_3 true _ A4.out).mono ?_); rintro e w23 ⟨rfl, hb⟩; refine ⟨_, rfl, ?_⟩; have n0_ := Aside0.mk (blk_below (g := gb107) (o := .cells #[.int .u32 a0_0, .int .u32 a0_1, .int .u32 a0_2, .int .u32 a0_3] 53 (0, 0)) (by (with_reducible repeat (first | refine blk_drewN ?_ _ | refine blk_drew ?_ | refine blk_alloc ?_ _)); exact BK107.out) hb); have n1_ := Aside0.mk (below_step (by repeat (first | (with_reducible first | exact HB.out | apply below_alloc | apply pw_below_drewN | apply below_drew1 | refine below_set ?_ GE107.out) | exact HB.out)) hb); clear BK107; clear HB; have BK107 := n0_; have HB := n1_; clear n0_ n1_; (try clear hb); (try clear hb2); (try clear hk); (try clear hi); have hcz24_0 : w23.cell? ⟨gb107, 0, none⟩ = some (.int .u32 a0_0) := (blk_cell BK107.out 0).trans rfl; have hcz24_1 : w23.cell? ⟨gb107, 1, none⟩ = some (.int .u32 a0_1) := (blk_cell BK107.out 1).trans rfl; have hcz24_2 : w23.cell? ⟨gb107, 2, none⟩ = some (.int .u32 a0_2) := (blk_cell BK107.out 2).trans rfl; have hcz24_3 : w23.cell? ⟨gb107, 3, none⟩ = some (.int .u32 a0_3) := (blk_cell BK107.out 3).trans rfl; have hfz24_0 := blk_frozen BK107.out 0; have hfz24_1 := blk_frozen BK107.out 1; have hfz24_2 := blk_frozen BK107.out 2; have hfz24_3 := blk_frozen BK107.out 3))
      go_ret
      exact ⟨by first | rfl | (simp [errW_none, errW_some] <;> rfl) | (simp [*, errW_none, errW_some] <;> rfl), by repeat (first | (with_reducible first | exact HB.out | apply below_alloc | apply pw_below_drewN | apply below_drew1 | refine below_set ?_ GE107.out) | exact HB.out)⟩
  · replace c5 := Bool.eq_false_iff.mpr c5
    subst c5
    have H1 : (some false) = some r := by rw [if_neg (show ¬ (false = true) by decide)] at H; exact H
    clear H
    have H := H1
    clear H1
    obtain rfl := Option.some.inj H
    go_enter Try.func50, Try.ntmps50
    go_wp2_with (first | ((with_reducible refine gate_dst (N := 3) rfl ?_); refine box_event ?hg (N := 3) ?hd (cs := #[.int .u32 a0_0, .int .u32 a0_1, .int .u32 a0_2, .int .u32 a0_3]) (t := 53) ?hr ?_; (case hd => rfl); (case hg => rfl); (case hr => first | (go_simp; done) | (go_simp; rfl)); intro gb107 hg w25 hbox hb; have n0_ := Aside0.mk (below_step (by repeat (first | (with_reducible first | exact HB.out | apply below_alloc | apply pw_below_drewN | apply below_drew1) | exact HB.out)) hb); have n1_ := Aside0.mk (hbox); have n2_ := Aside0.mk ((by rw [hg]; exact (below_size (by repeat (first | (with_reducible first | exact HB.out | apply below_alloc | apply pw_below_drewN | apply below_drew1) | exact HB.out))) : w.heap.size ≤ gb107)); have n3_ := Aside0.mk ((by rw [hg]; exact (below_size (by repeat (first | (with_reducible first | exact HB.out | apply below_alloc | apply pw_below_drewN | apply below_drew1) | exact HB.out))) : w.heap.size ≤ gb107)); clear HB; have HB := n0_; have BK107 := n1_; have GW107 := n2_; have GE107 := n3_; clear n0_ n1_ n2_ n3_; clear hb hbox hg; have hcz26_0 : w25.cell? ⟨gb107, 0, none⟩ = some (.int .u32 a0_0) := (blk_cell BK107.out 0).trans rfl; have hcz26_1 : w25.cell? ⟨gb107, 1, none⟩ = some (.int .u32 a0_1) := (blk_cell BK107.out 1).trans rfl; have hcz26_2 : w25.cell? ⟨gb107, 2, none⟩ = some (.int .u32 a0_2) := (blk_cell BK107.out 2).trans rfl; have hcz26_3 : w25.cell? ⟨gb107, 3, none⟩ = some (.int .u32 a0_3) := (blk_cell BK107.out 3).trans rfl; have hfz26_0 := blk_frozen BK107.out 0; have hfz26_1 := blk_frozen BK107.out 1; have hfz26_2 := blk_frozen BK107.out 2; have hfz26_3 := blk_frozen BK107.out 3) | ((with_reducible refine gate_callee (f := 31) rfl ?_); refine goesL_ (some 8) rfl rfl Try.func31 (by kernel_rfl) rfl #[.agg #[.int .u32 a0_0, .int .u32 a0_1, .int .u32 a0_2, .int .u32 a0_3]] rfl (by (try simp only [List.map_toArray, List.map_cons, List.map_nil]); first | done | rfl | (simp only [List.length_drop, List.length_take]; rfl)) ?_; (with_reducible refine (cell_RightBox.calls a0_0 a0_1 a0_2 a0_3 false _ A4.out).mono ?_); rintro e w27 ⟨rfl, hb⟩; refine ⟨_, rfl, ?_⟩; have n0_ := Aside0.mk (blk_below (g := gb107) (o := .cells #[.int .u32 a0_0, .int .u32 a0_1, .int .u32 a0_2, .int .u32 a0_3] 53 (0, 0)) (by (with_reducible repeat (first | refine blk_drewN ?_ _ | refine blk_drew ?_ | refine blk_alloc ?_ _)); exact BK107.out) hb); have n1_ := Aside0.mk (below_step (by repeat (first | (with_reducible first | exact HB.out | apply below_alloc | apply pw_below_drewN | apply below_drew1 | refine below_set ?_ GE107.out) | exact HB.out)) hb); clear BK107; clear HB; have BK107 := n0_; have HB := n1_; clear n0_ n1_; (try clear hb); (try clear hb2); (try clear hk); (try clear hi)))
    go_ret
    exact ⟨by first | rfl | (simp [errW_none, errW_some] <;> rfl) | (simp [*, errW_none, errW_some] <;> rfl), by repeat (first | (with_reducible first | exact HB.out | apply below_alloc | apply pw_below_drewN | apply below_drew1 | refine below_set ?_ GE107.out) | exact HB.out)⟩

/-! ### cell_size: function 72 -/
def cell_size.f (a0_0 : Int) (a0_1 : Int) (a0_2 : Int) : Option (Int) := if 0 ≤ a0_2 then (some (shl .u64 1 a0_2)) else (none)
set_option maxHeartbeats 8000000 in
set_option maxRecDepth 100000 in
theorem cell_size.calls (a0_0 : Int) (a0_1 : Int) (a0_2 : Int) (r : Int) (w : World) (h : cell_size.f a0_0 a0_1 a0_2 = some r) :
    Calls Try.prog 72 #[.agg #[.int .u32 a0_0, .int .u32 a0_1, .int .i64 a0_2]] w fun e w' => e = .returned (.int .u64 r) ∧ Below w.heap.size w w' := by
  have hu30 := Try.underlying30
  have HB := Aside0.mk (Below.refl w.heap.size w)
  have H : (if 0 ≤ a0_2 then (some (shl .u64 1 a0_2)) else (none)) = some r := h
  clear h
  by_cases c2 : 0 ≤ a0_2
  · rw [if_pos c2] at H
    have c2b0 := eq_true c2
    have c2b1 : decide (0 ≤ a0_2) = true := decide_eq_true c2
    clear c2
    obtain ⟨ji3, hji3⟩ : ∃ j_ : Int, (shl .u64 1 a0_2) = j_ := ⟨_, rfl⟩
    replace H : (some ji3) = some r := by first | (rw [hji3] at H; exact H) | (simp only [hji3] at H ⊢; exact H)
    have hji3_ : (IntKind.u64.wrap (1 * 2 ^ min a0_2.toNat 64)) = ji3 := hji3
    have hji3z : a0_2 ≤ 64 → (IntKind.u64.wrap (1 * 2 ^ a0_2.toNat)) = ji3 := shl_small hji3
    have hji3u : (IntKind.u64.wrap (2 ^ min a0_2.toNat 64)) = ji3 := by have h_ := hji3_; rw [Int.one_mul] at h_; exact h_
    have hji3v : a0_2 ≤ 64 → (IntKind.u64.wrap (2 ^ a0_2.toNat)) = ji3 := fun hle_ => by have h_ := hji3z hle_; rw [Int.one_mul] at h_; exact h_
    obtain rfl := Option.some.inj H
    go_enter Try.func72, Try.ntmps72
    go_wp2_with (first | ((with_reducible refine gate_dst (N := 1) rfl ?_); refine box_event ?hg (N := 1) ?hd (cs := #[.int .u32 a0_0, .int .u32 a0_1, .int .i64 a0_2]) (t := 30) ?hr ?_; (case hd => rfl); (case hg => rfl); (case hr => first | (go_simp; done) | (go_simp; rfl)); intro gb109 hg w4 hbox hb; have n0_ := Aside0.mk (below_step (by repeat (first | (with_reducible first | exact HB.out | apply below_alloc | apply pw_below_drewN | apply below_drew1) | exact HB.out)) hb); have n1_ := Aside0.mk (hbox); have n2_ := Aside0.mk ((by rw [hg]; exact (below_size (by repeat (first | (with_reducible first | exact HB.out | apply below_alloc | apply pw_below_drewN | apply below_drew1) | exact HB.out))) : w.heap.size ≤ gb109)); have n3_ := Aside0.mk ((by rw [hg]; exact (below_size (by repeat (first | (with_reducible first | exact HB.out | apply below_alloc | apply pw_below_drewN | apply below_drew1) | exact HB.out))) : w.heap.size ≤ gb109)); clear HB; have HB := n0_; have BK109 := n1_; have GW109 := n2_; have GE109 := n3_; clear n0_ n1_ n2_ n3_; clear hb hbox hg; have hcz5_0 : w4.cell? ⟨gb109, 0, none⟩ = some (.int .u32 a0_0) := (blk_cell BK109.out 0).trans rfl; have hcz5_1 : w4.cell? ⟨gb109, 1, none⟩ = some (.int .u32 a0_1) := (blk_cell BK109.out 1).trans rfl; have hcz5_2 : w4.cell? ⟨gb109, 2, none⟩ = some (.int .i64 a0_2) := (blk_cell BK109.out 2).trans rfl; have hfz5_0 := blk_frozen BK109.out 0; have hfz5_1 := blk_frozen BK109.out 1; have hfz5_2 := blk_frozen BK109.out 2))
    go_ret
    exact ⟨by first | rfl | (simp [errW_none, errW_some] <;> rfl) | (simp only [← hji3]; first | rfl | (simp [errW_none, errW_some] <;> rfl)) | (simp [*, errW_none, errW_some] <;> rfl), by repeat (first | (with_reducible first | exact HB.out | apply below_alloc | apply pw_below_drewN | apply below_drew1 | refine below_set ?_ GE109.out) | exact HB.out)⟩
  · rw [if_neg c2] at H
    exact absurd H (by simp)

/-! ### cell_Right: function 54 -/
def cell_Right.f (a0_0 : Int) (a0_1 : Int) (a0_2 : Int) : Option (Bool) := if a0_2 < 0 then (some false) else (if a0_2 > 31 then (some false) else ((cell_size.f a0_0 a0_1 a0_2).bind fun t111 => (if (Go.bits .and .u32 (Go.bits .or .u32 a0_0 a0_1) ((IntKind.u64.wrap (t111 - 1)) % 4294967296)) = 0 then (some (decide ((mx a0_0 a0_1) < 2147483648))) else (some false))))
set_option maxHeartbeats 8000000 in
set_option maxRecDepth 100000 in
theorem cell_Right.calls (a0_0 : Int) (a0_1 : Int) (a0_2 : Int) (r : Bool) (w : World) (h : cell_Right.f a0_0 a0_1 a0_2 = some r) :
    Calls Try.prog 54 #[.agg #[.int .u32 a0_0, .int .u32 a0_1, .int .i64 a0_2]] w fun e w' => e = .returned (.bool r) ∧ Below w.heap.size w w' := by
  have hu30 := Try.underlying30
  have HB := Aside0.mk (Below.refl w.heap.size w)
  have H : (if a0_2 < 0 then (some false) else (if a0_2 > 31 then (some false) else ((cell_size.f a0_0 a0_1 a0_2).bind fun t111 => (if (Go.bits .and .u32 (Go.bits .or .u32 a0_0 a0_1) ((IntKind.u64.wrap (t111 - 1)) % 4294967296)) = 0 then (some (decide ((mx a0_0 a0_1) < 2147483648))) else (some false))))) = some r := h
  clear h
  by_cases c2 : a0_2 < 0
  · rw [if_pos c2] at H
    have c2b0 : decide (a0_2 < 0) = true := decide_eq_true c2
    clear c2
    obtain rfl := Option.some.inj H
    go_enter Try.func54, Try.ntmps54
    go_wp2_with (first | ((with_reducible refine gate_dst (N := 1) rfl ?_); (try (refine gate_guard (by rfl) ?_; dsimp only)); refine box_event ?hg (N := 1) ?hd (cs := #[.int .u32 a0_0, .int .u32 a0_1, .int .i64 a0_2]) (t := 30) ?hr ?_; (case hd => rfl); (case hg => rfl); (case hr => first | (go_simp; done) | (go_simp; rfl)); intro gb110 hg w3 hbox hb; have n0_ := Aside0.mk (below_step (by repeat (first | (with_reducible first | exact HB.out | apply below_alloc | apply pw_below_drewN | apply below_drew1) | exact HB.out)) hb); have n1_ := Aside0.mk (hbox); have n2_ := Aside0.mk ((by rw [hg]; exact (below_size (by repeat (first | (with_reducible first | exact HB.out | apply below_alloc | apply pw_below_drewN | apply below_drew1) | exact HB.out))) : w.heap.size ≤ gb110)); have n3_ := Aside0.mk ((by rw [hg]; exact (below_size (by repeat (first | (with_reducible first | exact HB.out | apply below_alloc | apply pw_below_drewN | apply below_drew1) | exact HB.out))) : w.heap.size ≤ gb110)); clear HB; have HB := n0_; have BK110 := n1_; have GW110 := n2_; have GE110 := n3_; clear n0_ n1_ n2_ n3_; clear hb hbox hg; have hcz4_0 : w3.cell? ⟨gb110, 0, none⟩ = some (.int .u32 a0_0) := (blk_cell BK110.out 0).trans rfl; have hcz4_1 : w3.cell? ⟨gb110, 1, none⟩ = some (.int .u32 a0_1) := (blk_cell BK110.out 1).trans rfl; have hcz4_2 : w3.cell? ⟨gb110, 2, none⟩ = some (.int .i64 a0_2) := (blk_cell BK110.out 2).trans rfl; have hfz4_0 := blk_frozen BK110.out 0; have hfz4_1 := blk_frozen BK110.out 1; have hfz4_2 := blk_frozen BK110.out 2))
    go_ret
    exact ⟨by first | rfl | (simp [errW_none, errW_some] <;> rfl) | (simp [*, errW_none, errW_some] <;> rfl), by repeat (first | (with_reducible first | exact HB.out | apply below_alloc | apply pw_below_drewN | apply below_drew1 | refine below_set ?_ GE110.out) | exact HB.out)⟩
  · rw [if_neg c2] at H
    have c2b0 : decide (a0_2 < 0) = false := decide_eq_false c2
    clear c2
    by_cases c5 : a0_2 > 31
    · rw [if_pos c5] at H
      have c5b0 : decide (31 < a0_2) = true := decide_eq_true c5
      clear c5
      obtain rfl := Option.some.inj H
      go_enter Try.func54, Try.ntmps54
      go_wp2_with (first | ((with_reducible refine gate_dst (N := 1) rfl ?_); (try (refine gate_guard (by rfl) ?_; dsimp only)); refine box_event ?hg (N := 1) ?hd (cs := #[.int .u32 a0_0, .int .u32 a0_1, .int .i64 a0_2]) (t := 30) ?hr ?_; (case hd => rfl); (case hg => rfl); (case hr => first | (go_simp; done) | (go_simp; rfl)); intro gb110 hg w6 hbox hb; have n0_ := Aside0.mk (below_step (by repeat (first | (with_reducible first | exact HB.out | apply below_alloc | apply pw_below_drewN | apply below_drew1) | exact HB.out)) hb); have n1_ := Aside0.mk (hbox); have n2_ := Aside0.mk ((by rw [hg]; exact (below_size (by repeat (first | (with_reducible first | exact HB.out | apply below_alloc | apply pw_below_drewN | apply below_drew1) | exact HB.out))) : w.heap.size ≤ gb110)); have n3_ := Aside0.mk ((by rw [hg]; exact (below_size (by repeat (first | (with_reducible first | exact HB.out | apply below_alloc | apply pw_below_drewN | apply below_drew1) | exact HB.out))) : w.heap.size ≤ gb110)); clear HB; have HB := n0_; have BK110 := n1_; have GW110 := n2_; have GE110 := n3_; clear n0_ n1_ n2_ n3_; clear hb hbox hg; have hcz7_0 : w6.cell? ⟨gb110, 0, none⟩ = some (.int .u32 a0_0) := (blk_cell BK110.out 0).trans rfl; have hcz7_1 : w6.cell? ⟨gb110, 1, none⟩ = some (.int .u32 a0_1) := (blk_cell BK110.out 1).trans rfl; have hcz7_2 : w6.cell? ⟨gb110, 2, none⟩ = some (.int .i64 a0_2) := (blk_cell BK110.out 2).trans rfl; have hfz7_0 := blk_frozen BK110.out 0; have hfz7_1 := blk_frozen BK110.out 1; have hfz7_2 := blk_frozen BK110.out 2))
      go_ret
      exact ⟨by first | rfl | (simp [errW_none, errW_some] <;> rfl) | (simp [*, errW_none, errW_some] <;> rfl), by repeat (first | (with_reducible first | exact HB.out | apply below_alloc | apply pw_below_drewN | apply below_drew1 | refine below_set ?_ GE110.out) | exact HB.out)⟩
    · rw [if_neg c5] at H
      have c5b0 : decide (31 < a0_2) = false := decide_eq_false c5
      clear c5
      replace H := Option.bind_eq_some_iff.mp H
      obtain ⟨t111, A80, H⟩ := H
      replace H : (if (Go.bits .and .u32 (Go.bits .or .u32 a0_0 a0_1) ((IntKind.u64.wrap (t111 - 1)) % 4294967296)) = 0 then (some (decide ((mx a0_0 a0_1) < 2147483648))) else (some false)) = some r := H
      have A8 := Aside0.mk A80
      clear A80
      by_cases c9 : (Go.bits .and .u32 (Go.bits .or .u32 a0_0 a0_1) ((IntKind.u64.wrap (t111 - 1)) % 4294967296)) = 0
      · rw [if_pos c9] at H
        have c9b0 : ((Go.bits .and .u32 (Go.bits .or .u32 a0_0 a0_1) ((IntKind.u64.wrap (t111 - 1)) % 4294967296)) == 0) = true := beq_iff_eq.mpr c9
        have c9b1 : ((Go.bits .and .u32 (Go.bits .or .u32 a0_0 a0_1) ((IntKind.u64.wrap (t111 - 1)) % 4294967296)) != 0) = false := bne_eq_false_iff_eq.mpr c9
        clear c9
        obtain ⟨ji10, hji10⟩ : ∃ j_ : Int, (mx a0_0 a0_1) = j_ := ⟨_, rfl⟩
        replace H : (some (decide ((ji10) < 2147483648))) = some r := by first | (rw [hji10] at H; exact H) | (simp only [hji10] at H ⊢; exact H)
        (try rw [hji10] at A8)
        have hji10_ : (if a0_0 < a0_1 then a0_1 else a0_0) = ji10 := hji10
        obtain rfl := Option.some.inj H
        go_enter Try.func54, Try.ntmps54
        go_wp2_with (first | ((with_reducible refine gate_dst (N := 1) rfl ?_); (try (refine gate_guard (by rfl) ?_; dsimp only)); refine box_event ?hg (N := 1) ?hd (cs := #[.int .u32 a0_0, .int .u32 a0_1, .int .i64 a0_2]) (t := 30) ?hr ?_; (case hd => rfl); (case hg => rfl); (case hr => first | (go_simp; done) | (go_simp; rfl)); intro gb110 hg w11 hbox hb; have n0_ := Aside0.mk (below_step (by repeat (first | (with_reducible first | exact HB.out | apply below_alloc | apply pw_below_drewN | apply below_drew1) | exact HB.out)) hb); have n1_ := Aside0.mk (hbox); have n2_ := Aside0.mk ((by rw [hg]; exact (below_size (by repeat (first | (with_reducible first | exact HB.out | apply below_alloc | apply pw_below_drewN | apply below_drew1) | exact HB.out))) : w.heap.size ≤ gb110)); have n3_ := Aside0.mk ((by rw [hg]; exact (below_size (by repeat (first | (with_reducible first | exact HB.out | apply below_alloc | apply pw_below_drewN | apply below_drew1) | exact HB.out))) : w.heap.size ≤ gb110)); clear HB; have HB := n0_; have BK110 := n1_; have GW110 := n2_; have GE110 := n3_; clear n0_ n1_ n2_ n3_; clear hb hbox hg; have hcz12_0 : w11.cell? ⟨gb110, 0, none⟩ = some (.int .u32 a0_0) := (blk_cell BK110.out 0).trans rfl; have hcz12_1 : w11.cell? ⟨gb110, 1, none⟩ = some (.int .u32 a0_1) := (blk_cell BK110.out 1).trans rfl; have hcz12_2 : w11.cell? ⟨gb110, 2, none⟩ = some (.int .i64 a0_2) := (blk_cell BK110.out 2).trans rfl; have hfz12_0 := blk_frozen BK110.out 0; have hfz12_1 := blk_frozen BK110.out 1; have hfz12_2 := blk_frozen BK110.out 2) | ((with_reducible refine gate_callee (f := 72) rfl ?_); refine goesL_ (some 13) rfl rfl Try.func72 (by kernel_rfl) rfl #[.agg #[.int .u32 a0_0, .int .u32 a0_1, .int .i64 a0_2]] rfl (by (try simp only [List.map_toArray, List.map_cons, List.map_nil]); first | done | rfl | (simp only [List.length_drop, List.length_take]; rfl)) ?_; (with_reducible refine (cell_size.calls a0_0 a0_1 a0_2 t111 _ A8.out).mono ?_); rintro e w13 ⟨rfl, hb⟩; refine ⟨_, rfl, ?_⟩; have n0_ := Aside0.mk (blk_below (g := gb110) (o := .cells #[.int .u32 a0_0, .int .u32 a0_1, .int .i64 a0_2] 30 (0, 0)) (by (with_reducible repeat (first | refine blk_drewN ?_ _ | refine blk_drew ?_ | refine blk_alloc ?_ _)); exact BK110.out) hb); have n1_ := Aside0.mk (below_step (by repeat (first | (with_reducible first | exact HB.out | apply below_alloc | apply pw_below_drewN | apply below_drew1 | refine below_set ?_ GE110.out) | exact HB.out)) hb); clear BK110; clear HB; have BK110 := n0_; have HB := n1_; clear n0_ n1_; (try clear hb); (try clear hb2); (try clear hk); (try clear hi); have hcz14_0 : w13.cell? ⟨gb110, 0, none⟩ = some (.int .u32 a0_0) := (blk_cell BK110.out 0).trans rfl; have hcz14_1 : w13.cell? ⟨gb110, 1, none⟩ = some (.int .u32 a0_1) := (blk_cell BK110.out 1).trans rfl; have hcz14_2 : w13.cell? ⟨gb110, 2, none⟩ = some (.int .i64 a0_2) := (blk_cell BK110.out 2).trans rfl; have hfz14_0 := blk_frozen BK110.out 0; have hfz14_1 := blk_frozen BK110.out 1; have hfz14_2 := blk_frozen BK110.out 2))
        go_ret
        exact ⟨by first | rfl | (simp [errW_none, errW_some] <;> rfl) | (simp only [← hji10]; first | rfl | (simp [errW_none, errW_some] <;> rfl)) | (simp [*, errW_none, errW_some] <;> rfl), by repeat (first | (with_reducible first | exact HB.out | apply below_alloc | apply pw_below_drewN | apply below_drew1 | refine below_set ?_ GE110.out) | exact HB.out)⟩
      · rw [if_neg c9] at H
        have c9b0 : ((Go.bits .and .u32 (Go.bits .or .u32 a0_0 a0_1) ((IntKind.u64.wrap (t111 - 1)) % 4294967296)) == 0) = false := beq_eq_false_iff_ne.mpr c9
        have c9b1 : ((Go.bits .and .u32 (Go.bits .or .u32 a0_0 a0_1) ((IntKind.u64.wrap (t111 - 1)) % 4294967296)) != 0) = true := bne_iff_ne.mpr c9
        obtain rfl := Option.some.inj H
        go_enter Try.func54, Try.ntmps54
        go_wp2_with (first | ((with_reducible refine gate_dst (N := 1) rfl ?_); (try (refine gate_guard (by rfl) ?_; dsimp only)); refine box_event ?hg (N := 1) ?hd (cs := #[.int .u32 a0_0, .int .u32 a0_1, .int .i64 a0_2]) (t := 30) ?hr ?_; (case hd => rfl); (case hg => rfl); (case hr => first | (go_simp; done) | (go_simp; rfl)); intro gb110 hg w15 hbox hb; have n0_ := Aside0.mk (below_step (by repeat (first | (with_reducible first | exact HB.out | apply below_alloc | apply pw_below_drewN | apply below_drew1) | exact HB.out)) hb); have n1_ := Aside0.mk (hbox); have n2_ := Aside0.mk ((by rw [hg]; exact (below_size (by repeat (first | (with_reducible first | exact HB.out | apply below_alloc | apply pw_below_drewN | apply below_drew1) | exact HB.out))) : w.heap.size ≤ gb110)); have n3_ := Aside0.mk ((by rw [hg]; exact (below_size (by repeat (first | (with_reducible first | exact HB.out | apply below_alloc | apply pw_below_drewN | apply below_drew1) | exact HB.out))) : w.heap.size ≤ gb110)); clear HB; have HB := n0_; have BK110 := n1_; have GW110 := n2_; have GE110 := n3_; clear n0_ n1_ n2_ n3_; clear hb hbox hg; have hcz16_0 : w15.cell? ⟨gb110, 0, none⟩ = some (.int .u32 a0_0) := (blk_cell BK110.out 0).trans rfl; have hcz16_1 : w15.cell? ⟨gb110, 1, none⟩ = some (.int .u32 a0_1) := (blk_cell BK110.out 1).trans rfl; have hcz16_2 : w15.cell? ⟨gb110, 2, none⟩ = some (.int .i64 a0_2) := (blk_cell BK110.out 2).trans rfl; have hfz16_0 := blk_frozen BK110.out 0; have hfz16_1 := blk_frozen BK110.out 1; have hfz16_2 := blk_frozen BK110.out 2) | ((with_reducible refine gate_callee (f := 72) rfl ?_); refine goesL_ (some 13) rfl rfl Try.func72 (by kernel_rfl) rfl #[.agg #[.int .u32 a0_0, .int .u32 a0_1, .int .i64 a0_2]] rfl (by (try simp only [List.map_toArray, List.map_cons, List.map_nil]); first | done | rfl | (simp only [List.length_drop, List.length_take]; rfl)) ?_; (with_reducible refine (cell_size.calls a0_0 a0_1 a0_2 t111 _ A8.out).mono ?_); rintro e w17 ⟨rfl, hb⟩; refine ⟨_, rfl, ?_⟩; have n0_ := Aside0.mk (blk_below (g := gb110) (o := .cells #[.int .u32 a0_0, .int .u32 a0_1, .int .i64 a0_2] 30 (0, 0)) (by (with_reducible repeat (first | refine blk_drewN ?_ _ | refine blk_drew ?_ | refine blk_alloc ?_ _)); exact BK110.out) hb); have n1_ := Aside0.mk (below_step (by repeat (first | (with_reducible first | exact HB.out | apply below_alloc | apply pw_below_drewN | apply below_drew1 | refine below_set ?_ GE110.out) | exact HB.out)) hb); clear BK110; clear HB; have BK110 := n0_; have HB := n1_; clear n0_ n1_; (try clear hb); (try clear hb2); (try clear hk); (try clear hi); have hcz18_0 : w17.cell? ⟨gb110, 0, none⟩ = some (.int .u32 a0_0) := (blk_cell BK110.out 0).trans rfl; have hcz18_1 : w17.cell? ⟨gb110, 1, none⟩ = some (.int .u32 a0_1) := (blk_cell BK110.out 1).trans rfl; have hcz18_2 : w17.cell? ⟨gb110, 2, none⟩ = some (.int .i64 a0_2) := (blk_cell BK110.out 2).trans rfl; have hfz18_0 := blk_frozen BK110.out 0; have hfz18_1 := blk_frozen BK110.out 1; have hfz18_2 := blk_frozen BK110.out 2))
        go_ret
        exact ⟨by first | rfl | (simp [errW_none, errW_some] <;> rfl) | (simp [*, errW_none, errW_some] <;> rfl), by repeat (first | (with_reducible first | exact HB.out | apply below_alloc | apply pw_below_drewN | apply below_drew1 | refine below_set ?_ GE110.out) | exact HB.out)⟩

/-! ### cell_all: function 55 -/
def cell_all.f (a0_0 : Int) (a0_1 : Int) (a0_2 : Int) : Option (Int × Int × Int × Int) := (cell_size.f a0_0 a0_1 a0_2).bind fun t119 => (some (a0_0, a0_1, (a0_0 + IntKind.u64.wrap (t119 - 1)) % 4294967296, (a0_1 + IntKind.u64.wrap (t119 - 1)) % 4294967296))
set_option maxHeartbeats 2000000 in
set_option maxRecDepth 100000 in
theorem cell_all.calls (a0_0 : Int) (a0_1 : Int) (a0_2 : Int) (r1 : Int) (r2 : Int) (r3 : Int) (r4 : Int) (w : World) (h : cell_all.f a0_0 a0_1 a0_2 = some (r1, r2, r3, r4)) :
    Calls Try.prog 55 #[.agg #[.int .u32 a0_0, .int .u32 a0_1, .int .i64 a0_2]] w fun e w' => e = .returned (.agg #[.int .u32 r1, .int .u32 r2, .int .u32 r3, .int .u32 r4]) ∧ Below w.heap.size w w' := by
  have H := Option.bind_eq_some_iff.mp h
  clear h
  obtain ⟨t, ht, H⟩ := H
  have HT := Aside0.mk ht
  clear ht
  simp only [Option.some.injEq, Prod.mk.injEq] at H
  obtain ⟨rfl, rfl, rfl, rfl⟩ := H
  go_enter Try.func55, Try.ntmps55
  go_wp2_with (go_at_call 72; refine (cell_size.calls _ _ _ t _ HT.out).mono ?_; rintro e w1 ⟨rfl, hb⟩; obtain ⟨hc, hf⟩ := bcell hb; have hz : w.heap.size + 1 < w1.heap.size := by have := hb.size; simp at this; omega)
  refine bodyPost_ret (v := .agg #[.int .u32 a0_0, .int .u32 a0_1, .int .u32 ((a0_0 + IntKind.u64.wrap (t - 1)) % 4294967296), .int .u32 ((a0_1 + IntKind.u64.wrap (t - 1)) % 4294967296)]) (by simp [results, Try.results55, go_sem, hc, hz]) rfl ⟨rfl, ?_⟩
  have hB := below_call (below_alloc' (below_alloc' (Below.refl _ w) _) _) hb
  repeat (first | exact hB | refine Below.setCell ?_ (by simp) _)


/-! ### cell_Has: function 35 -/
def cell_Has.f (a0_0 : Int) (a0_1 : Int) (a0_2 : Int) (a1 : Int) (a2 : Int) : Option (Bool) := (cell_Right.f a0_0 a0_1 a0_2).bind fun t113 => (if t113 = true then ((cell_all.f a0_0 a0_1 a0_2).bind fun bt114 => ((cell_In.f bt114.1 bt114.2.1 bt114.2.2.1 bt114.2.2.2 a1 a2).bind fun t118 => (some t118))) else (some false))
set_option maxHeartbeats 8000000 in
set_option maxRecDepth 100000 in
theorem cell_Has.calls (a0_0 : Int) (a0_1 : Int) (a0_2 : Int) (a1 : Int) (a2 : Int) (r : Bool) (w : World) (h : cell_Has.f a0_0 a0_1 a0_2 a1 a2 = some r) :
    Calls Try.prog 35 #[.agg #[.int .u32 a0_0, .int .u32 a0_1, .int .i64 a0_2], .int .u32 a1, .int .u32 a2] w fun e w' => e = .returned (.bool r) ∧ Below w.heap.size w w' := by
  have hu30 := Try.underlying30
  have HB := Aside0.mk (Below.refl w.heap.size w)
  have H : ((cell_Right.f a0_0 a0_1 a0_2).bind fun t113 => (if t113 = true then ((cell_all.f a0_0 a0_1 a0_2).bind fun bt114 => ((cell_In.f bt114.1 bt114.2.1 bt114.2.2.1 bt114.2.2.2 a1 a2).bind fun t118 => (some t118))) else (some false))) = some r := h
  clear h
  replace H := Option.bind_eq_some_iff.mp H
  obtain ⟨t113, A40, H⟩ := H
  replace H : (if t113 = true then ((cell_all.f a0_0 a0_1 a0_2).bind fun bt114 => ((cell_In.f bt114.1 bt114.2.1 bt114.2.2.1 bt114.2.2.2 a1 a2).bind fun t118 => (some t118))) else (some false)) = some r := H
  have A4 := Aside0.mk A40
  clear A40
  by_cases c5 : t113 = true
  · subst c5
    have H1 : ((cell_all.f a0_0 a0_1 a0_2).bind fun bt114 => ((cell_In.f bt114.1 bt114.2.1 bt114.2.2.1 bt114.2.2.2 a1 a2).bind fun t118 => (some t118))) = some r := by rw [if_pos rfl] at H; exact H
    clear H
    have H := H1
    clear H1
    replace H := Option.bind_eq_some_iff.mp H
    obtain ⟨⟨t114, t115, t116, t117⟩, A60, H⟩ := H
    replace H : ((cell_In.f t114 t115 t116 t117 a1 a2).bind fun t118 => (some t118)) = some r := H
    have A6 := Aside0.mk A60
    clear A60
    replace H := Option.bind_eq_some_iff.mp H
    obtain ⟨t118, A70, H⟩ := H
    replace H : (some t118) = some r := H
    have A7 := Aside0.mk A70
    clear A70
    obtain rfl := Option.some.inj H
    go_enter Try.func35, Try.ntmps35
    go_wp2_with (first | ((with_reducible refine gate_dst (N := 3) rfl ?_); refine box_event ?hg (N := 3) ?hd (cs := #[.int .u32 a0_0, .int .u32 a0_1, .int .i64 a0_2]) (t := 30) ?hr ?_; (case hd => rfl); (case hg => rfl); (case hr => first | (go_simp; done) | (go_simp; rfl)); intro gb112 hg w8 hbox hb; have n0_ := Aside0.mk (below_step (by repeat (first | (with_reducible first | exact HB.out | apply below_alloc | apply pw_below_drewN | apply below_drew1) | exact HB.out)) hb); have n1_ := Aside0.mk (hbox); have n2_ := Aside0.mk ((by rw [hg]; exact (below_size (by repeat (first | (with_reducible first | exact HB.out | apply below_alloc | apply pw_below_drewN | apply below_drew1) | exact HB.out))) : w.heap.size ≤ gb112)); have n3_ := Aside0.mk ((by rw [hg]; exact (below_size (by repeat (first | (with_reducible first | exact HB.out | apply below_alloc | apply pw_below_drewN | apply below_drew1) | exact HB.out))) : w.heap.size ≤ gb112)); clear HB; have HB := n0_; have BK112 := n1_; have GW112 := n2_; have GE112 := n3_; clear n0_ n1_ n2_ n3_; clear hb hbox hg; have hcz9_0 : w8.cell? ⟨gb112, 0, none⟩ = some (.int .u32 a0_0) := (blk_cell BK112.out 0).trans rfl; have hcz9_1 : w8.cell? ⟨gb112, 1, none⟩ = some (.int .u32 a0_1) := (blk_cell BK112.out 1).trans rfl; have hcz9_2 : w8.cell? ⟨gb112, 2, none⟩ = some (.int .i64 a0_2) := (blk_cell BK112.out 2).trans rfl; have hfz9_0 := blk_frozen BK112.out 0; have hfz9_1 := blk_frozen BK112.out 1; have hfz9_2 := blk_frozen BK112.out 2) | ((with_reducible refine gate_callee (f := 54) rfl ?_); refine goesL_ (some 8) rfl rfl Try.func54 (by kernel_rfl) rfl #[.agg #[.int .u32 a0_0, .int .u32 a0_1, .int .i64 a0_2]] rfl (by (try simp only [List.map_toArray, List.map_cons, List.map_nil]); first | done | rfl | (simp only [List.length_drop, List.length_take]; rfl)) ?_; (with_reducible refine (cell_Right.calls a0_0 a0_1 a0_2 true _ A4.out).mono ?_); rintro e w10 ⟨rfl, hb⟩; refine ⟨_, rfl, ?_⟩; have n0_ := Aside0.mk (blk_below (g := gb112) (o := .cells #[.int .u32 a0_0, .int .u32 a0_1, .int .i64 a0_2] 30 (0, 0)) (by (with_reducible repeat (first | refine blk_drewN ?_ _ | refine blk_drew ?_ | refine blk_alloc ?_ _)); exact BK112.out) hb); have n1_ := Aside0.mk (below_step (by repeat (first | (with_reducible first | exact HB.out | apply below_alloc | apply pw_below_drewN | apply below_drew1 | refine below_set ?_ GE112.out) | exact HB.out)) hb); clear BK112; clear HB; have BK112 := n0_; have HB := n1_; clear n0_ n1_; (try clear hb); (try clear hb2); (try clear hk); (try clear hi); have hcz11_0 : w10.cell? ⟨gb112, 0, none⟩ = some (.int .u32 a0_0) := (blk_cell BK112.out 0).trans rfl; have hcz11_1 : w10.cell? ⟨gb112, 1, none⟩ = some (.int .u32 a0_1) := (blk_cell BK112.out 1).trans rfl; have hcz11_2 : w10.cell? ⟨gb112, 2, none⟩ = some (.int .i64 a0_2) := (blk_cell BK112.out 2).trans rfl; have hfz11_0 := blk_frozen BK112.out 0; have hfz11_1 := blk_frozen BK112.out 1; have hfz11_2 := blk_frozen BK112.out 2) | (go_at_call 55; (with_reducible refine (cell_all.calls a0_0 a0_1 a0_2 t114 t115 t116 t117 _ A6.out).mono ?_); rintro e w12 ⟨rfl, hb⟩; have n0_ := Aside0.mk (blk_below (g := gb112) (o := .cells #[.int .u32 a0_0, .int .u32 a0_1, .int .i64 a0_2] 30 (0, 0)) (by (with_reducible repeat (first | refine blk_drewN ?_ _ | refine blk_drew ?_ | refine blk_alloc ?_ _)); exact BK112.out) hb); have n1_ := Aside0.mk (below_step (by repeat (first | (with_reducible first | exact HB.out | apply below_alloc | apply pw_below_drewN | apply below_drew1 | refine below_set ?_ GE112.out) | exact HB.out)) hb); clear BK112; clear HB; have BK112 := n0_; have HB := n1_; clear n0_ n1_; (try clear hb); (try clear hb2); (try clear hk); (try clear hi)) | (go_at_call 50; (with_reducible refine (cell_In.calls t114 t115 t116 t117 a1 a2 t118 _ A7.out).mono ?_); rintro e w13 ⟨rfl, hb⟩; have n0_ := Aside0.mk (blk_below (g := gb112) (o := .cells #[.int .u32 a0_0, .int .u32 a0_1, .int .i64 a0_2] 30 (0, 0)) (by (with_reducible repeat (first | refine blk_drewN ?_ _ | refine blk_drew ?_ | refine blk_alloc ?_ _)); exact BK112.out) hb); have n1_ := Aside0.mk (below_step (by repeat (first | (with_reducible first | exact HB.out | apply below_alloc | apply pw_below_drewN | apply below_drew1 | refine below_set ?_ GE112.out) | exact HB.out)) hb); clear BK112; clear HB; have BK112 := n0_; have HB := n1_; clear n0_ n1_; (try clear hb); (try clear hb2); (try clear hk); (try clear hi)))
    go_ret
    exact ⟨by first | rfl | (simp [errW_none, errW_some] <;> rfl) | (simp [*, errW_none, errW_some] <;> rfl), by repeat (first | (with_reducible first | exact HB.out | apply below_alloc | apply pw_below_drewN | apply below_drew1 | refine below_set ?_ GE112.out) | exact HB.out)⟩
  · replace c5 := Bool.eq_false_iff.mpr c5
    subst c5
    have H1 : (some false) = some r := by rw [if_neg (show ¬ (false = true) by decide)] at H; exact H
    clear H
    have H := H1
    clear H1
    obtain rfl := Option.some.inj H
    go_enter Try.func35, Try.ntmps35
    go_wp2_with (first | ((with_reducible refine gate_dst (N := 3) rfl ?_); refine box_event ?hg (N := 3) ?hd (cs := #[.int .u32 a0_0, .int .u32 a0_1, .int .i64 a0_2]) (t := 30) ?hr ?_; (case hd => rfl); (case hg => rfl); (case hr => first | (go_simp; done) | (go_simp; rfl)); intro gb112 hg w14 hbox hb; have n0_ := Aside0.mk (below_step (by repeat (first | (with_reducible first | exact HB.out | apply below_alloc | apply pw_below_drewN | apply below_drew1) | exact HB.out)) hb); have n1_ := Aside0.mk (hbox); have n2_ := Aside0.mk ((by rw [hg]; exact (below_size (by repeat (first | (with_reducible first | exact HB.out | apply below_alloc | apply pw_below_drewN | apply below_drew1) | exact HB.out))) : w.heap.size ≤ gb112)); have n3_ := Aside0.mk ((by rw [hg]; exact (below_size (by repeat (first | (with_reducible first | exact HB.out | apply below_alloc | apply pw_below_drewN | apply below_drew1) | exact HB.out))) : w.heap.size ≤ gb112)); clear HB; have HB := n0_; have BK112 := n1_; have GW112 := n2_; have GE112 := n3_; clear n0_ n1_ n2_ n3_; clear hb hbox hg; have hcz15_0 : w14.cell? ⟨gb112, 0, none⟩ = some (.int .u32 a0_0) := (blk_cell BK112.out 0).trans rfl; have hcz15_1 : w14.cell? ⟨gb112, 1, none⟩ = some (.int .u32 a0_1) := (blk_cell BK112.out 1).trans rfl; have hcz15_2 : w14.cell? ⟨gb112, 2, none⟩ = some (.int .i64 a0_2) := (blk_cell BK112.out 2).trans rfl; have hfz15_0 := blk_frozen BK112.out 0; have hfz15_1 := blk_frozen BK112.out 1; have hfz15_2 := blk_frozen BK112.out 2) | ((with_reducible refine gate_callee (f := 54) rfl ?_); refine goesL_ (some 8) rfl rfl Try.func54 (by kernel_rfl) rfl #[.agg #[.int .u32 a0_0, .int .u32 a0_1, .int .i64 a0_2]] rfl (by (try simp only [List.map_toArray, List.map_cons, List.map_nil]); first | done | rfl | (simp only [List.length_drop, List.length_take]; rfl)) ?_; (with_reducible refine (cell_Right.calls a0_0 a0_1 a0_2 false _ A4.out).mono ?_); rintro e w16 ⟨rfl, hb⟩; refine ⟨_, rfl, ?_⟩; have n0_ := Aside0.mk (blk_below (g := gb112) (o := .cells #[.int .u32 a0_0, .int .u32 a0_1, .int .i64 a0_2] 30 (0, 0)) (by (with_reducible repeat (first | refine blk_drewN ?_ _ | refine blk_drew ?_ | refine blk_alloc ?_ _)); exact BK112.out) hb); have n1_ := Aside0.mk (below_step (by repeat (first | (with_reducible first | exact HB.out | apply below_alloc | apply pw_below_drewN | apply below_drew1 | refine below_set ?_ GE112.out) | exact HB.out)) hb); clear BK112; clear HB; have BK112 := n0_; have HB := n1_; clear n0_ n1_; (try clear hb); (try clear hb2); (try clear hk); (try clear hi)))
    go_ret
    exact ⟨by first | rfl | (simp [errW_none, errW_some] <;> rfl) | (simp [*, errW_none, errW_some] <;> rfl), by repeat (first | (with_reducible first | exact HB.out | apply below_alloc | apply pw_below_drewN | apply below_drew1 | refine below_set ?_ GE112.out) | exact HB.out)⟩

/-! ### cell_quarters_1: function 76 -/
attribute [local go_sem] Oper.semAt_some
/-- A quarter as the iterator hands it on: its number, and its three cells. -/
abbrev qEncs (p : Int × Int × Int × Int) : Array Value := #[.int .i64 p.1, .agg #[.int .u32 p.2.1, .int .u32 p.2.2.1, .int .i64 p.2.2.2]]

/-- Quarter k of a cell whose half is m. -/
def qAt (x y l m : Int) : Nat → Int × Int × Int × Int
  | 0 => (0, x, y, l - 1)
  | 1 => (1, x + m, y, l - 1)
  | 2 => (2, x, y + m, l - 1)
  | _ => (3, x + m, y + m, l - 1)
/-- The quarters that the iterator goes through. -/
def qList (x y l : Int) : List (Int × Int × Int × Int) := if cell_Right.f x y l = some true ∧ l ≠ 0 then (List.range 4).map (qAt x y l (shl .u64 1 l / 2)) else []

set_option maxRecDepth 100000 in
set_option maxHeartbeats 4000000 in
theorem cell_quarters.go (l' Bc n₀ : Nat) (x y l t : Int) (hl : 0 < l) (hl1 : l ≤ 31) (hx : 0 ≤ x ∧ x < 2147483648) (hy : 0 ≤ y ∧ y < 2147483648) (ht : 2 ≤ t ∧ t ≤ 2147483648) (hS : cell_size.f x y l = some t) (hR : cell_Right.f x y l = some true) (J Jx : List (Int × Int × Int × Int) → World → Prop)
    (hY : ∀ pre q W, J pre W → pre.length < 4 → YieldAt Fence.wide 7 Try.prog l' (qEncs q) W fun e W' =>
      (e = .returned (.bool true) ∧ J (pre ++ [q]) W' ∧ Below n₀ W W') ∨ (e = .returned (.bool false) ∧ Jx (pre ++ [q]) W'))
    (W : World) (hB : Bc < n₀) (hn₀ : n₀ ≤ W.heap.size) (hc : ∀ W', Below n₀ W W' → W'.cell? ⟨Bc, 0, none⟩ = some (.int .u32 x) ∧ W'.cell? ⟨Bc, 1, none⟩ = some (.int .u32 y) ∧ W'.cell? ⟨Bc, 2, none⟩ = some (.int .i64 l)) (h0 : J [] W)
    (hJa : AbidesFrom W.heap.size J) :
    CallsIn Fence.wide 8 Try.prog 76 #[.func (.yield l') #[] #[], .pointer (some ⟨Bc, 0, none⟩)] W fun e W' => (∃ v, e = .returned v) ∧
      ((∃ ys, ys = (List.range 4).map (qAt x y l (t / 2)) ∧ J ys W') ∨ (∃ pre, pre <+: (List.range 4).map (qAt x y l (t / 2)) ∧ Jx pre W')) := by
  refine callsIn_of_wp Try.func76 rfl trivial ?_ rfl
  simp only [Try.ntmps76, List.size_toArray, List.length_cons, List.length_nil, Nat.reduceAdd, Nat.reduceSub, Array.replicate_succ, Array.replicate_zero, List.push_toArray, List.append_toArray, List.nil_append, List.cons_append]
  obtain ⟨c0, c1, c2⟩ := hc W (Below.refl _ _)
  obtain ⟨hx0, hx1⟩ := hx
  obtain ⟨hy0, hy1⟩ := hy
  obtain ⟨ht0, ht1⟩ := ht
  have HR := Aside0.mk hR
  have HS := Aside0.mk hS
  have f13 : Fence.wide.fn 54 := trivial
  have f35 : Fence.wide.fn 72 := trivial
  have hne : (l == 0) = false := beq_eq_false_iff_ne.2 (by omega)
  have HC := Aside0.mk hc
  have HJ := Aside0.mk hJa
  clear hR hc hJa hS
  have hJt : ∀ pre (A B : World), J pre A → Below A.heap.size A B → J pre B := fun pre A B hA hAB => HJ.out pre A B none hA (grown_of_below hAB none) (by simp)
  have HJt := Aside0.mk hJt
  have HY := Aside0.mk hY
  clear hJt hY
  gi_wp2_with (first | (gi_at_call 54; refine (callsIn_wide.2 (cell_Right.calls x y l true _ HR.out)).mono ?_; rintro e w1 ⟨rfl, hb1⟩; obtain ⟨hc1, hf1⟩ := bcell hb1; have k0 := (hc1 Bc 0 (by omega)).trans c0; have k1 := (hc1 Bc 1 (by omega)).trans c1; have k2 := (hc1 Bc 2 (by omega)).trans c2; clear hc1 hf1) | (gi_at_call 72; refine (callsIn_wide.2 (cell_size.calls x y l _ _ HS.out)).mono ?_; rintro e w2 ⟨rfl, hb2⟩))
  have HB2 := Aside0.mk (below_call hb1 hb2)
  clear c0 c1 c2 k0 k1 k2 hb1 hb2
  have i0 : ∀ w, (Instr.index 103 (.agg #[.int .u32 0, .int .u32 0, .int .u32 1, .int .u32 0, .int .u32 0, .int .u32 1, .int .u32 1, .int .u32 1]) (.int .i64 0)).run Try.prog w = .ok (.agg #[.int .u32 0, .int .u32 0]) w := fun _ => by kernel_rfl
  have i1 : ∀ w, (Instr.index 103 (.agg #[.int .u32 0, .int .u32 0, .int .u32 1, .int .u32 0, .int .u32 0, .int .u32 1, .int .u32 1, .int .u32 1]) (.int .i64 1)).run Try.prog w = .ok (.agg #[.int .u32 1, .int .u32 0]) w := fun _ => by kernel_rfl
  have i2 : ∀ w, (Instr.index 103 (.agg #[.int .u32 0, .int .u32 0, .int .u32 1, .int .u32 0, .int .u32 0, .int .u32 1, .int .u32 1, .int .u32 1]) (.int .i64 2)).run Try.prog w = .ok (.agg #[.int .u32 0, .int .u32 1]) w := fun _ => by kernel_rfl
  have i3 : ∀ w, (Instr.index 103 (.agg #[.int .u32 0, .int .u32 0, .int .u32 1, .int .u32 0, .int .u32 0, .int .u32 1, .int .u32 1, .int .u32 1]) (.int .i64 3)).run Try.prog w = .ok (.agg #[.int .u32 1, .int .u32 1]) w := fun _ => by kernel_rfl
  gi_loopw [23] (fun i wr => ∃ k : Nat, k ≤ 4 ∧ i = .int .i64 k ∧ Aside0 (J ((List.range k).map (qAt x y l (t / 2))) wr) ∧ Aside0 (Below n₀ W wr))
    (fun i _ => 4 - (intOf i).toNat)
  case atStart => exact ⟨0, Nat.zero_le _, rfl, ⟨HJt.out _ _ _ h0 HB2.out⟩, ⟨HB2.out.mono hn₀⟩⟩
  case round =>
    obtain ⟨k, hk, rfl, hJs, hnx⟩ := hrel
    have hn2 : n₀ ≤ wr.heap.size := Nat.le_trans hn₀ hnx.out.size
    have hk5 : k = 0 ∨ k = 1 ∨ k = 2 ∨ k = 3 ∨ k = 4 := by omega
    rcases hk5 with rfl | rfl | rfl | rfl | rfl
    · obtain ⟨c0, c1, c2⟩ := HC.out _ (hnx.out.alloc hn2 (.cells #[.int .u32 0, .int .u32 0] 102))
      obtain ⟨fn, tmps, assign, body, hy, hR⟩ := HY.out _ (qAt x y l (t / 2) 0) (wr.alloc (.cells #[.int .u32 0, .int .u32 0] 102)) (HJt.out _ _ _ hJs.out ((Below.refl _ _).alloc (Nat.le_refl _) _)) (by simp)
      dsimp only [qEncs, qAt] at hy
      gi_wp2_with fail
      refine hR.mono ?_
      rintro e W3 (⟨rfl, hJ3, hk3⟩ | ⟨rfl, hJx3⟩)
      · have HJ3 := Aside0.mk hJ3
        have HK3 := Aside0.mk hk3
        clear hJ3 hk3 hy hR c0 c1 c2
        gi_wp2_with fail
        go_roundw
        case rel => exact ⟨0 + 1, by omega, by simp, ⟨by rw [List.range_succ, List.map_append]; exact HJ3.out⟩, ⟨(hnx.out.alloc hn2 _).trans HK3.out⟩⟩
        case measure => simp [intOf]
      · have HJ3 := Aside0.mk hJx3
        clear hJx3 hy hR c0 c1 c2
        gi_wp2_with fail
        refine bodyPost_ret (results_none rfl _ _ _) rfl ?_
        exact ⟨⟨_, rfl⟩, .inr ⟨_, by rw [show [qAt x y l (t / 2) 0] = List.map (qAt x y l (t / 2)) [0] from rfl, ← List.map_append, ← List.range_succ]; exact List.IsPrefix.map _ (by decide), HJ3.out⟩⟩
    · obtain ⟨c0, c1, c2⟩ := HC.out _ (hnx.out.alloc hn2 (.cells #[.int .u32 1, .int .u32 0] 102))
      obtain ⟨fn, tmps, assign, body, hy, hR⟩ := HY.out _ (qAt x y l (t / 2) 1) (wr.alloc (.cells #[.int .u32 1, .int .u32 0] 102)) (HJt.out _ _ _ hJs.out ((Below.refl _ _).alloc (Nat.le_refl _) _)) (by simp)
      dsimp only [qEncs, qAt] at hy
      gi_wp2_with fail
      refine hR.mono ?_
      rintro e W3 (⟨rfl, hJ3, hk3⟩ | ⟨rfl, hJx3⟩)
      · have HJ3 := Aside0.mk hJ3
        have HK3 := Aside0.mk hk3
        clear hJ3 hk3 hy hR c0 c1 c2
        gi_wp2_with fail
        go_roundw
        case rel => exact ⟨1 + 1, by omega, by simp, ⟨by rw [List.range_succ, List.map_append]; exact HJ3.out⟩, ⟨(hnx.out.alloc hn2 _).trans HK3.out⟩⟩
        case measure => simp [intOf]
      · have HJ3 := Aside0.mk hJx3
        clear hJx3 hy hR c0 c1 c2
        gi_wp2_with fail
        refine bodyPost_ret (results_none rfl _ _ _) rfl ?_
        exact ⟨⟨_, rfl⟩, .inr ⟨_, by rw [show [qAt x y l (t / 2) 1] = List.map (qAt x y l (t / 2)) [1] from rfl, ← List.map_append, ← List.range_succ]; exact List.IsPrefix.map _ (by decide), HJ3.out⟩⟩
    · obtain ⟨c0, c1, c2⟩ := HC.out _ (hnx.out.alloc hn2 (.cells #[.int .u32 0, .int .u32 1] 102))
      obtain ⟨fn, tmps, assign, body, hy, hR⟩ := HY.out _ (qAt x y l (t / 2) 2) (wr.alloc (.cells #[.int .u32 0, .int .u32 1] 102)) (HJt.out _ _ _ hJs.out ((Below.refl _ _).alloc (Nat.le_refl _) _)) (by simp)
      dsimp only [qEncs, qAt] at hy
      gi_wp2_with fail
      refine hR.mono ?_
      rintro e W3 (⟨rfl, hJ3, hk3⟩ | ⟨rfl, hJx3⟩)
      · have HJ3 := Aside0.mk hJ3
        have HK3 := Aside0.mk hk3
        clear hJ3 hk3 hy hR c0 c1 c2
        gi_wp2_with fail
        go_roundw
        case rel => exact ⟨2 + 1, by omega, by simp, ⟨by rw [List.range_succ, List.map_append]; exact HJ3.out⟩, ⟨(hnx.out.alloc hn2 _).trans HK3.out⟩⟩
        case measure => simp [intOf]
      · have HJ3 := Aside0.mk hJx3
        clear hJx3 hy hR c0 c1 c2
        gi_wp2_with fail
        refine bodyPost_ret (results_none rfl _ _ _) rfl ?_
        exact ⟨⟨_, rfl⟩, .inr ⟨_, by rw [show [qAt x y l (t / 2) 2] = List.map (qAt x y l (t / 2)) [2] from rfl, ← List.map_append, ← List.range_succ]; exact List.IsPrefix.map _ (by decide), HJ3.out⟩⟩
    · obtain ⟨c0, c1, c2⟩ := HC.out _ (hnx.out.alloc hn2 (.cells #[.int .u32 1, .int .u32 1] 102))
      obtain ⟨fn, tmps, assign, body, hy, hR⟩ := HY.out _ (qAt x y l (t / 2) 3) (wr.alloc (.cells #[.int .u32 1, .int .u32 1] 102)) (HJt.out _ _ _ hJs.out ((Below.refl _ _).alloc (Nat.le_refl _) _)) (by simp)
      dsimp only [qEncs, qAt] at hy
      gi_wp2_with fail
      refine hR.mono ?_
      rintro e W3 (⟨rfl, hJ3, hk3⟩ | ⟨rfl, hJx3⟩)
      · have HJ3 := Aside0.mk hJ3
        have HK3 := Aside0.mk hk3
        clear hJ3 hk3 hy hR c0 c1 c2
        gi_wp2_with fail
        go_roundw
        case rel => exact ⟨3 + 1, by omega, by simp, ⟨by rw [List.range_succ, List.map_append]; exact HJ3.out⟩, ⟨(hnx.out.alloc hn2 _).trans HK3.out⟩⟩
        case measure => simp [intOf]
      · have HJ3 := Aside0.mk hJx3
        clear hJx3 hy hR c0 c1 c2
        gi_wp2_with fail
        refine bodyPost_ret (results_none rfl _ _ _) rfl ?_
        exact ⟨⟨_, rfl⟩, .inr ⟨_, by rw [show [qAt x y l (t / 2) 3] = List.map (qAt x y l (t / 2)) [3] from rfl, ← List.map_append, ← List.range_succ]; exact List.IsPrefix.map _ (by decide), HJ3.out⟩⟩
    · gi_wp2_with fail
      go_end0
      exact ⟨⟨_, rfl⟩, .inl ⟨_, rfl, hJs.out⟩⟩

theorem cell_Right.tot (x y l : Int) : ∃ b, cell_Right.f x y l = some b := by
  unfold cell_Right.f cell_size.f
  by_cases h1 : l < 0
  · exact ⟨_, if_pos h1⟩
  · rw [if_neg h1]
    by_cases h2 : l > 31
    · exact ⟨_, if_pos h2⟩
    · rw [if_neg h2, if_pos (by omega)]
      simp only [Option.bind_some]
      split <;> exact ⟨_, rfl⟩
theorem cell_Right.bd {x y l : Int} (h : cell_Right.f x y l = some true) : 0 ≤ l ∧ l ≤ 31 ∧ x < 2147483648 ∧ y < 2147483648 := by
  unfold cell_Right.f cell_size.f at h
  by_cases h1 : l < 0
  · rw [if_pos h1] at h; simp at h
  · rw [if_neg h1] at h
    by_cases h2 : l > 31
    · rw [if_pos h2] at h; simp at h
    · rw [if_neg h2, if_pos (by omega)] at h
      simp only [Option.bind_some] at h
      split at h
      · have := Option.some.inj h
        have := of_decide_eq_true this
        unfold mx at this
        omega
      · simp at h
theorem shl_pow (l : Int) (h0 : 0 ≤ l) (h1 : l ≤ 31) : shl .u64 1 l = 2 ^ l.toNat := by
  obtain ⟨n, rfl⟩ := Int.eq_ofNat_of_zero_le h0
  have hn : n ≤ 31 := by omega
  unfold shl
  simp only [Int.toNat_natCast]
  have : n = 0 ∨ n = 1 ∨ n = 2 ∨ n = 3 ∨ n = 4 ∨ n = 5 ∨ n = 6 ∨ n = 7 ∨ n = 8 ∨ n = 9 ∨ n = 10 ∨ n = 11 ∨ n = 12 ∨ n = 13 ∨ n = 14 ∨ n = 15 ∨ n = 16 ∨ n = 17 ∨ n = 18 ∨ n = 19 ∨ n = 20 ∨ n = 21 ∨ n = 22 ∨ n = 23 ∨ n = 24 ∨ n = 25 ∨ n = 26 ∨ n = 27 ∨ n = 28 ∨ n = 29 ∨ n = 30 ∨ n = 31 := by omega
  rcases this with rfl|rfl|rfl|rfl|rfl|rfl|rfl|rfl|rfl|rfl|rfl|rfl|rfl|rfl|rfl|rfl|rfl|rfl|rfl|rfl|rfl|rfl|rfl|rfl|rfl|rfl|rfl|rfl|rfl|rfl|rfl|rfl <;> decide +kernel
theorem two_pow (n : Nat) : (2 : Int) ^ n = ((2 ^ n : Nat) : Int) := by simp
theorem shl_bd (l : Int) (h0 : 1 ≤ l) (h1 : l ≤ 31) : 2 ≤ shl .u64 1 l ∧ shl .u64 1 l ≤ 2147483648 := by
  rw [shl_pow l (by omega) h1]
  obtain ⟨n, rfl⟩ := Int.eq_ofNat_of_zero_le (show 0 ≤ l by omega)
  simp only [Int.toNat_natCast]
  have a1 : 2 ^ 1 ≤ 2 ^ n := Nat.pow_le_pow_right (by decide) (by omega)
  have a2 : 2 ^ n ≤ 2 ^ 31 := Nat.pow_le_pow_right (by decide) (by omega)
  rw [two_pow]
  omega

set_option maxRecDepth 100000 in
set_option maxHeartbeats 4000000 in
theorem cell_quarters.no (l' Bc : Nat) (x y l : Int) (b : Bool) (hR : cell_Right.f x y l = some b) (hb : b = false ∨ l = 0)
    (W : World) (hB : Bc < W.heap.size) (c0 : W.cell? ⟨Bc, 0, none⟩ = some (.int .u32 x)) (c1 : W.cell? ⟨Bc, 1, none⟩ = some (.int .u32 y)) (c2 : W.cell? ⟨Bc, 2, none⟩ = some (.int .i64 l)) :
    CallsIn Fence.wide 8 Try.prog 76 #[.func (.yield l') #[] #[], .pointer (some ⟨Bc, 0, none⟩)] W fun e W' => (∃ v, e = .returned v) ∧ Below W.heap.size W W' := by
  refine callsIn_of_wp Try.func76 rfl trivial ?_ rfl
  simp only [Try.ntmps76, List.size_toArray, List.length_cons, List.length_nil, Nat.reduceAdd, Nat.reduceSub, Array.replicate_succ, Array.replicate_zero, List.push_toArray, List.append_toArray, List.nil_append, List.cons_append]
  have HR := Aside0.mk hR
  have f13 : Fence.wide.fn 54 := trivial
  clear hR
  cases b with
  | false =>
    clear hb
    gi_wp2_with (gi_at_call 54; refine (callsIn_wide.2 (cell_Right.calls x y l false _ HR.out)).mono ?_; rintro e w1 ⟨rfl, hb1⟩)
    refine bodyPost_ret (results_none rfl _ _ _) rfl ?_
    exact ⟨⟨_, rfl⟩, hb1⟩
  | true =>
    obtain rfl : l = 0 := by simpa using hb
    clear hb
    gi_wp2_with (gi_at_call 54; refine (callsIn_wide.2 (cell_Right.calls x y 0 true _ HR.out)).mono ?_; rintro e w1 ⟨rfl, hb1⟩; obtain ⟨hc1, hf1⟩ := bcell hb1; have k0 := (hc1 Bc 0 (by omega)).trans c0; have k1 := (hc1 Bc 1 (by omega)).trans c1; have k2 := (hc1 Bc 2 (by omega)).trans c2; clear hc1 hf1)
    refine bodyPost_ret (results_none rfl _ _ _) rfl ?_
    exact ⟨⟨_, rfl⟩, hb1⟩

theorem qList_len (x y l : Int) : (qList x y l).length ≤ 4 := by unfold qList; split <;> simp

theorem cell_quarters.stops (Bc n₀ : Nat) (x y l : Int) (hx : 0 ≤ x) (hy : 0 ≤ y) (w : World) (hB : Bc < n₀) (hn₀ : n₀ ≤ w.heap.size)
    (c0 : w.cell? ⟨Bc, 0, none⟩ = some (.int .u32 x)) (c1 : w.cell? ⟨Bc, 1, none⟩ = some (.int .u32 y)) (c2 : w.cell? ⟨Bc, 2, none⟩ = some (.int .i64 l)) :
    SeqStopsK Fence.wide 8 Try.prog 76 #[.pointer (some ⟨Bc, 0, none⟩)] qEncs (Below n₀) (fun ys => ys = qList x y l) (fun pre => pre <+: qList x y l) 4 w := fun l' J Jx W hW hJ _ hY h0 => by
  have hlt : Bc < w.heap.size := by omega
  have d0 := (hW.cell (p := ⟨Bc, 0, none⟩) hlt).trans c0
  have d1 := (hW.cell (p := ⟨Bc, 1, none⟩) hlt).trans c1
  have d2 := (hW.cell (p := ⟨Bc, 2, none⟩) hlt).trans c2
  obtain ⟨b, hR⟩ := cell_Right.tot x y l
  by_cases hh : b = true ∧ l ≠ 0
  · obtain ⟨rfl, hl⟩ := hh
    obtain ⟨b0, b1, b2, b3⟩ := cell_Right.bd hR
    obtain ⟨s0, s1⟩ := shl_bd l (by omega) b1
    have hq : qList x y l = (List.range 4).map (qAt x y l (shl .u64 1 l / 2)) := by unfold qList; rw [if_pos ⟨hR, hl⟩]
    rw [hq]
    refine cell_quarters.go l' Bc n₀ x y l (shl .u64 1 l) (by omega) b1 ⟨hx, b2⟩ ⟨hy, b3⟩ ⟨s0, s1⟩ (by unfold cell_size.f; rw [if_pos b0]) hR J Jx hY W hB (Nat.le_trans hn₀ hW.size) (fun W' hW' => ?_) h0 hJ
    exact ⟨(hW'.cell (p := ⟨Bc, 0, none⟩) hB).trans d0, (hW'.cell (p := ⟨Bc, 1, none⟩) hB).trans d1, (hW'.cell (p := ⟨Bc, 2, none⟩) hB).trans d2⟩
  · have hq : qList x y l = [] := by
      unfold qList; rw [if_neg]; rintro ⟨h1, h2⟩; rw [hR] at h1; exact hh ⟨Option.some.inj h1, h2⟩
    rw [hq]
    refine (cell_quarters.no l' Bc x y l b hR ?_ W (Nat.lt_of_lt_of_le hlt hW.size) d0 d1 d2).mono ?_
    · cases b with
      | false => exact .inl rfl
      | true => exact .inr (by simpa using hh)
    · rintro e W' ⟨he, hb⟩
      exact ⟨he, .inl ⟨[], rfl, hJ [] W W' none h0 (grown_of_below hb none) (by simp)⟩⟩

theorem qList_pos {x y l : Int} {q : Int × Int × Int × Int} (h : q ∈ qList x y l) : 0 ≤ q.1 := by
  unfold qList at h
  split at h
  · rw [List.mem_map] at h
    obtain ⟨k, hk, rfl⟩ := h
    have : k = 0 ∨ k = 1 ∨ k = 2 ∨ k = 3 := by have := List.mem_range.1 hk; omega
    rcases this with rfl | rfl | rfl | rfl <;> simp [qAt]
  · simp at h


/-! ### cell_quarters: function 62 -/
attribute [local go_sem] Oper.semAt_some
set_option maxHeartbeats 1000000 in
theorem cell_quarters.calls (x y l : Int) (w : World) :
    CallsIn Fence.wide 8 Try.prog 62 #[.agg #[.int .u32 x, .int .u32 y, .int .i64 l]] w fun e w' =>
      e = .returned (.func (.func 76) #[] #[.pointer (some ⟨w.heap.size, 0, none⟩)]) ∧ w.alloc (.cells #[.int .u32 x, .int .u32 y, .int .i64 l] 30) = w' := by
  refine callsIn_of_wp Try.func62 rfl trivial ?_ rfl
  simp only [Try.ntmps62, List.size_toArray, List.length_cons, List.length_nil, Nat.reduceAdd, Nat.reduceSub, Array.replicate_succ, Array.replicate_zero, List.push_toArray, List.append_toArray, List.nil_append, List.cons_append]
  gi_wp2
  go_ret
  exact ⟨rfl, rfl⟩


/-! ### cell_Where: function 36 -/
attribute [local go_sem] Oper.semAt_some
theorem cell_In.tot (a b c d u v : Int) : ∃ r, cell_In.f a b c d u v = some r := by
  unfold cell_In.f cell_RightBox.f
  repeat' split
  all_goals simp only [Option.bind_some]
  all_goals (repeat' split)
  all_goals exact ⟨_, rfl⟩
theorem cell_Has.tot (x y l u v : Int) : ∃ b, cell_Has.f x y l u v = some b := by
  unfold cell_Has.f
  obtain ⟨b, hb⟩ := cell_Right.tot x y l
  rw [hb]
  simp only [Option.bind_some]
  cases b with
  | false => exact ⟨_, if_neg (by simp)⟩
  | true =>
    obtain ⟨h0, h1, _⟩ := cell_Right.bd hb
    rw [if_pos rfl]
    unfold cell_all.f cell_size.f
    rw [if_pos h0]
    simp only [Option.bind_some]
    obtain ⟨r, hr⟩ := cell_In.tot x y ((x + IntKind.u64.wrap (shl .u64 1 l - 1)) % 4294967296) ((y + IntKind.u64.wrap (shl .u64 1 l - 1)) % 4294967296) u v
    rw [hr]
    exact ⟨r, rfl⟩

/-- Has a quarter the point? -/
def qHas (u v : Int) (q : Int × Int × Int × Int) : Bool := decide (cell_Has.f q.2.1 q.2.2.1 q.2.2.2 u v = some true)
def cell_Where.f (a0_0 a0_1 a0_2 a1 a2 : Int) : Option (Int × Int) :=
  if 0 ≤ a0_0 ∧ 0 ≤ a0_1 then some (match (qList a0_0 a0_1 a0_2).find? (qHas a1 a2) with | some q => (q.1, 0) | none => (0, 2)) else none

set_option maxRecDepth 100000 in
set_option maxHeartbeats 4000000 in
theorem cell_Where.calls (a0_0 a0_1 a0_2 a1 a2 r1 r2 : Int) (w : World) (h : cell_Where.f a0_0 a0_1 a0_2 a1 a2 = some (r1, r2)) :
    Calls Try.prog 36 #[.agg #[.int .u32 a0_0, .int .u32 a0_1, .int .i64 a0_2], .int .u32 a1, .int .u32 a2] w fun e w' => e = .returned (.tuple #[.int .i64 r1, .int .i64 r2]) ∧ Below w.heap.size w w' := by
  unfold cell_Where.f at h
  split at h
  case isFalse => exact absurd h (by simp)
  rename_i hh
  obtain ⟨hx, hy⟩ := hh
  have H := Aside0.mk (Option.some.inj h)
  clear h
  refine (callsIn_wide (n := 9)).1 ?_
  refine callsIn_of_wp_marks Try.func36 rfl trivial ?_ rfl
  simp only [Try.ntmps36, List.size_toArray, List.length_cons, List.length_nil, Nat.reduceAdd, Nat.reduceSub, Array.replicate_succ, Array.replicate_zero, List.push_toArray, List.append_toArray, List.nil_append, List.cons_append]
  have f39 : Fence.wide.fn 62 := trivial
  gi_wp2_with fail
  refine wpIn_scope_wide ?_
  gi_wp2_with fail
  refine wpIn_label ?_
  gi_wp2_with (gi_at_call 62; refine (CallsIn.mono (cell_quarters.calls a0_0 a0_1 a0_2 _) ?_); rintro e w1 ⟨rfl, rfl⟩)
  obtain ⟨W0, hW0⟩ : ∃ W0 : World, (((((w.alloc (.cells #[.int .u32 a0_0, .int .u32 a0_1, .int .i64 a0_2] 30)).alloc (.cells #[.int .u32 a1] 24)).alloc (.cells #[.int .u32 a2] 24)).alloc (.cells #[.int .i64 (-1)] 3)).alloc (.cells #[.int .u32 a0_0, .int .u32 a0_1, .int .i64 a0_2] 30)) = W0 := ⟨_, rfl⟩
  have hsz : W0.heap.size = w.heap.size + 5 := by rw [← hW0]; simp
  have hB0 : Below w.heap.size w W0 := by
    rw [← hW0]
    exact below_alloc' (below_alloc' (below_alloc' (below_alloc' (below_alloc' (Below.refl _ w) _) _) _) _) _
  have bx : W0.heap[w.heap.size + 1]? = some (.cells #[.int .u32 a1] 24 (0, 0)) := by
    rw [← hW0]
    have := boxc_alloc (boxc_alloc (boxc_alloc (boxc_new (w.alloc (.cells #[.int .u32 a0_0, .int .u32 a0_1, .int .i64 a0_2] 30)) #[.int .u32 a1] 24) (.cells #[.int .u32 a2] 24)) (.cells #[.int .i64 (-1)] 3)) (.cells #[.int .u32 a0_0, .int .u32 a0_1, .int .i64 a0_2] 30)
    simpa using this
  have by' : W0.heap[w.heap.size + 1 + 1]? = some (.cells #[.int .u32 a2] 24 (0, 0)) := by
    rw [← hW0]
    have := boxc_alloc (boxc_alloc (boxc_new ((w.alloc (.cells #[.int .u32 a0_0, .int .u32 a0_1, .int .i64 a0_2] 30)).alloc (.cells #[.int .u32 a1] 24)) #[.int .u32 a2] 24) (.cells #[.int .i64 (-1)] 3)) (.cells #[.int .u32 a0_0, .int .u32 a0_1, .int .i64 a0_2] 30)
    simpa using this
  have bat : W0.heap[w.heap.size + 1 + 1 + 1]? = some (.cells #[.int .i64 (-1)] 3 (0, 0)) := by
    rw [← hW0]
    have := boxc_alloc (boxc_new (((w.alloc (.cells #[.int .u32 a0_0, .int .u32 a0_1, .int .i64 a0_2] 30)).alloc (.cells #[.int .u32 a1] 24)).alloc (.cells #[.int .u32 a2] 24)) #[.int .i64 (-1)] 3) (.cells #[.int .u32 a0_0, .int .u32 a0_1, .int .i64 a0_2] 30)
    simpa using this
  have bq : W0.heap[w.heap.size + 1 + 1 + 1 + 1]? = some (.cells #[.int .u32 a0_0, .int .u32 a0_1, .int .i64 a0_2] 30 (0, 0)) := by
    rw [← hW0]
    have := boxc_new ((((w.alloc (.cells #[.int .u32 a0_0, .int .u32 a0_1, .int .i64 a0_2] 30)).alloc (.cells #[.int .u32 a1] 24)).alloc (.cells #[.int .u32 a2] 24)).alloc (.cells #[.int .i64 (-1)] 3)) #[.int .u32 a0_0, .int .u32 a0_1, .int .i64 a0_2] 30
    simpa using this
  rw [hW0]
  clear hW0
  refine wpIn_rangeFunc_ownH (w := W0) rfl (by decide) (gf := 76) (lb := #[.pointer (some ⟨w.heap.size + 1 + 1 + 1 + 1, 0, none⟩)]) rfl trivial (enters_of Try.func76 (by kernel_rfl) rfl)
    (cell_quarters.stops (w.heap.size + 1 + 1 + 1 + 1) W0.heap.size a0_0 a0_1 a0_2 hx hy W0 (by omega) (Nat.le_refl _) (boxc_cell bq 0) (boxc_cell bq 1) (boxc_cell bq 2)) belowK_t (belowK_b (Nat.le_refl _)) (Below.refl _ _) (fun _ => rfl)
    (fun pre W => W.heap[w.heap.size + 1]? = some (.cells #[.int .u32 a1] 24 (0, 0)) ∧ W.heap[w.heap.size + 1 + 1]? = some (.cells #[.int .u32 a2] 24 (0, 0)) ∧ W.heap[w.heap.size + 1 + 1 + 1]? = some (.cells #[.int .i64 (-1)] 3 (0, 0)) ∧ Below w.heap.size w W ∧ W0.heap.size ≤ W.heap.size ∧ pre.find? (qHas a1 a2) = none)
    (fun c pre W => c = .exit 0 ∧ ∃ q, pre.find? (qHas a1 a2) = some q ∧ W.heap[w.heap.size + 1 + 1 + 1]? = some (.cells #[.int .i64 q.1] 3 (0, 0)) ∧ Below w.heap.size w W)
    (fun s X Y row ⟨h1, h2, h3, h4, h5, h6⟩ hg hr => ⟨boxc_keep h1 hg hr, boxc_keep h2 hg hr, boxc_keep h3 hg hr, below_keep h4 hg hr (by omega), size_keep h5 hg, h6⟩)
    (fun c s X Y row ⟨h1, q, h2, h3, h4⟩ hg hr => ⟨h1, q, h2, boxc_keep h3 hg hr, below_keep h4 hg hr (by omega)⟩)
    ⟨bx, by', bat, hB0, Nat.le_refl _, rfl⟩
    (fun q a' W => ∃ Bx, W0.heap.size ≤ Bx ∧ W.heap[Bx]? = some (.cells #[.int .u32 q.2.1, .int .u32 q.2.2.1, .int .i64 q.2.2.2] 30 (0, 0)) ∧ a' = { tmps := #[.agg #[.int .u32 a0_0, .int .u32 a0_1, .int .i64 a0_2], .int .u32 a1, .int .u32 a2, .pointer (some ⟨w.heap.size, 0, none⟩), .pointer (some ⟨w.heap.size + 1, 0, none⟩), .pointer (some ⟨w.heap.size + 1 + 1, 0, none⟩), .int .i64 0, .int .i64 0, .pointer (some ⟨w.heap.size + 1 + 1 + 1, 0, none⟩), .int .i64 q.1, .pointer (some ⟨Bx, 0, none⟩), .agg #[.int .u32 a0_0, .int .u32 a0_1, .int .i64 a0_2], .func (.func 76) #[] #[.pointer (some ⟨w.heap.size + 1 + 1 + 1 + 1, 0, none⟩)], .int .i64 q.1, .agg #[.int .u32 q.2.1, .int .u32 q.2.2.1, .int .i64 q.2.2.2], undef, undef, undef, undef, undef, undef, undef, undef], defers := [] })
    (fun q a' s X Y row ⟨Bx, h1, h2, h3⟩ hg hr => ⟨Bx, h1, boxc_keep h2 hg hr, h3⟩) ?assign ?body ?done ?stop
  case assign =>
    rintro l pre q W K ⟨h1, h2, h3, h4, h5, h6⟩ hK
    gi_wp2
    exact hK _ _ (keeps_below ((Below.refl _ W).alloc (Nat.le_refl _) _)) ((Below.refl _ W).alloc h5 _) ⟨boxc_alloc h1 _, boxc_alloc h2 _, boxc_alloc h3 _, below_alloc' h4 _, by simp; omega, h6⟩ ⟨W.heap.size, h5, boxc_new W _ _, rfl⟩
  case body =>
    rintro l pre q a' W hl ⟨r, hr⟩ ⟨h1, h2, h3, h4, h5, h6⟩ ⟨Bx, hBx, hbx, rfl⟩ hlt
    obtain ⟨b, hb⟩ := cell_Has.tot q.2.1 q.2.2.1 q.2.2.2 a1 a2
    have HH := Aside0.mk hb
    have hq : qHas a1 a2 q = b := by unfold qHas; rw [hb]; cases b <;> rfl
    have HQ := Aside0.mk hq
    clear hb hq
    have HI := Aside0.mk h6
    clear h6
    have f17 : Fence.wide.fn 35 := trivial
    have c1 := boxc_cell h1 0
    have c2 := boxc_cell h2 0
    have c3 := boxc_cell hbx 0
    have c4 := boxc_cell hbx 1
    have c5 := boxc_cell hbx 2
    cases b with
    | false =>
      gi_wp2_with (gi_at_call 35; refine (CallsIn.inRound l (callsIn_wide.2 (cell_Has.calls q.2.1 q.2.2.1 q.2.2.2 a1 a2 false _ HH.out))).mono ?_; rintro e w1 ⟨rfl, hb1⟩)
      exact ⟨keeps_below hb1, hb1.mono h5, boxc_below h1 hb1, boxc_below h2 hb1, boxc_below h3 hb1, below_call h4 hb1, Nat.le_trans h5 hb1.size, by rw [List.find?_append, HI.out]; simp [HQ.out]⟩
    | true =>
      gi_wp2_with (gi_at_call 35; refine (CallsIn.inRound l (callsIn_wide.2 (cell_Has.calls q.2.1 q.2.2.1 q.2.2.2 a1 a2 true _ HH.out))).mono ?_; rintro e w1 ⟨rfl, hb1⟩; have c6 := boxc_cell (boxc_below h3 hb1) 0; have c7 := boxc_frozen (boxc_below h3 hb1) 0)
      exact ⟨(keeps_below hb1).trans ((KeepsOthers.setCell _ _ _).from _), rfl, q, by rw [List.find?_append, HI.out]; simp [HQ.out], by simpa using blk_set (boxc_below h3 hb1) 0 (.int .i64 q.1), (below_call h4 hb1).setCell (by simp; omega) _⟩
  case done =>
    rintro D ys W hD rfl ⟨h1, h2, h3, h4, h5, h6⟩ hK
    have c3 := boxc_cell h3 0
    have h := H.out
    rw [h6] at h
    simp only [Prod.mk.injEq] at h
    obtain ⟨rfl, rfl⟩ := h
    clear H h6
    gi_wp2_with fail
    rw [Exit.noGoto_ret]
    refine ⟨by simp, .inl ⟨_, _, rfl, run_takeDeferred hK, ?_⟩⟩
    exact ⟨.tuple #[.int .i64 0, .int .i64 2], by simp [results, Try.results36, go_sem], rfl, h4.trans (belowK_b (w := w) (Nat.le_refl _) W D _ _ (by omega) hK rfl rfl)⟩
  case stop =>
    rintro D c pre W hD hpre ⟨rfl, q, h2, h3, h4⟩ hK
    have c3 := boxc_cell h3 0
    have hf : (qList a0_0 a0_1 a0_2).find? (qHas a1 a2) = some q := by
      obtain ⟨t, ht⟩ := hpre
      rw [← ht, List.find?_append, h2]; rfl
    have hq0 : 0 ≤ q.1 := qList_pos (List.mem_of_find?_eq_some hf)
    have h := H.out
    rw [hf] at h
    simp only [Prod.mk.injEq] at h
    obtain ⟨h, rfl⟩ := h
    have hr : r1 = q.1 := h.symm
    have HE := Aside0.mk hr
    clear h H h2 hf hr
    gi_wp2_with fail
    rw [Exit.noGoto_ret]
    refine ⟨by simp, .inl ⟨_, _, rfl, run_takeDeferred hK, ?_⟩⟩
    exact ⟨.tuple #[.int .i64 q.1, .int .i64 0], by simp [results, Try.results36, go_sem], by rw [HE.out], h4.trans (belowK_b (w := w) (Nat.le_refl _) W D _ _ (by omega) hK rfl rfl)⟩


/-! ### bits_Len32: function 87 -/
def bits_Len32.f (a0 : Int) : Option (Int) := if 0 ≤ a0 ∧ a0 ≤ 4294967295 then some (Lib.bitLen a0.toNat : Int) else none
theorem bits_Len32.ix (i : Int) (h0 : 0 ≤ i) (h1 : i ≤ 255) : ∀ W : World, (Instr.index 9 (.string Lib.len8tab) (.int .u8 i)).run Try.prog W = .ok (.int .u8 (Lib.bitLen i.toNat : Int)) W := fun W => by
  rw [Lib.run_index_len8tab W 9 .u8 i Try.underlying9 h0 h1, Lib.len8_of i h0 h1]
set_option maxHeartbeats 4000000 in
set_option maxRecDepth 100000 in
theorem bits_Len32.calls (a0 : Int) (r : Int) (w : World) (h : bits_Len32.f a0 = some r) :
    Calls Try.prog 87 #[.int .u32 a0] w fun e w' => e = .returned (.int .i64 r) ∧ Drawn0 w w' := by
  unfold bits_Len32.f at h
  split at h
  · rename_i hh
    obtain ⟨h0, h1⟩ := hh
    obtain rfl := Option.some.inj h
    clear h
    by_cases h2 : 65536 ≤ a0
    · by_cases h3 : 256 ≤ a0 / 65536
      · have i1 := bits_Len32.ix (a0 / 65536 / 256 % 256) (by omega) (by omega)
        have i2 := bits_Len32.ix (a0 / 65536 / 256) (by omega) (by omega)
        have e : a0.toNat / 16777216 = (a0 / 65536 / 256).toNat := by omega
        have e2 : (a0 / 65536 / 256 % 256) = (a0 / 65536 / 256) := by omega
        have s := Lib.bitLen_shift24 a0.toNat (by omega) (by omega)
        have l := Lib.bitLen_le8' (a0 / 65536 / 256) (by omega) (by omega)
        rw [e] at s
        go_enter Try.func87, Try.ntmps87
        go_wp2
        go_ret
        refine ⟨congrArg Ending.returned (congrArg (Value.int IntKind.i64) ?_), Drawn0.refl _⟩
        (try rw [s])
        (try rw [e2])
        first | rfl | omega | (unfold wrap64; omega)
      · have i1 := bits_Len32.ix (a0 / 65536 % 256) (by omega) (by omega)
        have i2 := bits_Len32.ix (a0 / 65536) (by omega) (by omega)
        have e : a0.toNat / 65536 = (a0 / 65536).toNat := by omega
        have e2 : (a0 / 65536 % 256) = (a0 / 65536) := by omega
        have s := Lib.bitLen_shift16 a0.toNat (by omega) (by omega)
        have l := Lib.bitLen_le8' (a0 / 65536) (by omega) (by omega)
        rw [e] at s
        go_enter Try.func87, Try.ntmps87
        go_wp2
        go_ret
        refine ⟨congrArg Ending.returned (congrArg (Value.int IntKind.i64) ?_), Drawn0.refl _⟩
        (try rw [s])
        (try rw [e2])
        first | rfl | omega | (unfold wrap64; omega)
    · by_cases h3 : 256 ≤ a0
      · have i1 := bits_Len32.ix (a0 / 256 % 256) (by omega) (by omega)
        have i2 := bits_Len32.ix (a0 / 256) (by omega) (by omega)
        have e : a0.toNat / 256 = (a0 / 256).toNat := by omega
        have e2 : (a0 / 256 % 256) = (a0 / 256) := by omega
        have s := Lib.bitLen_shift8 a0.toNat (by omega) (by omega)
        have l := Lib.bitLen_le8' (a0 / 256) (by omega) (by omega)
        rw [e] at s
        go_enter Try.func87, Try.ntmps87
        go_wp2
        go_ret
        refine ⟨congrArg Ending.returned (congrArg (Value.int IntKind.i64) ?_), Drawn0.refl _⟩
        (try rw [s])
        (try rw [e2])
        first | rfl | omega | (unfold wrap64; omega)
      · have i1 := bits_Len32.ix (a0 % 256) (by omega) (by omega)
        have i2 := bits_Len32.ix a0 (by omega) (by omega)
        have e2 : (a0 % 256) = a0 := by omega
        have l := Lib.bitLen_le8' a0 (by omega) (by omega)
        go_enter Try.func87, Try.ntmps87
        go_wp2
        go_ret
        refine ⟨congrArg Ending.returned (congrArg (Value.int IntKind.i64) ?_), Drawn0.refl _⟩
        (try rw [e2])
        first | rfl | omega | (unfold wrap64; omega)
  · exact absurd h (by simp)


/-! ### cell_around: function 89 -/
def cell_around.f (a0 : Int) (a1 : Int) (a2 : Int) : Option (Int × Int × Int) := if 0 ≤ a2 then (some (Go.bits .andNot .u32 a0 (((shl .u32 1 a2) - 1) % 4294967296), Go.bits .andNot .u32 a1 (((shl .u32 1 a2) - 1) % 4294967296), a2)) else (none)
set_option maxHeartbeats 8000000 in
set_option maxRecDepth 100000 in
theorem cell_around.calls (a0 : Int) (a1 : Int) (a2 : Int) (r1 : Int) (r2 : Int) (r3 : Int) (w : World) (h : cell_around.f a0 a1 a2 = some (r1, r2, r3)) :
    Calls Try.prog 89 #[.int .u32 a0, .int .u32 a1, .int .i64 a2] w fun e w' => e = .returned (.agg #[.int .u32 r1, .int .u32 r2, .int .i64 r3]) ∧ Below w.heap.size w w' := by
  have hu30 := Try.underlying30
  have HB := Aside0.mk (Below.refl w.heap.size w)
  have H : (if 0 ≤ a2 then (some (Go.bits .andNot .u32 a0 (((shl .u32 1 a2) - 1) % 4294967296), Go.bits .andNot .u32 a1 (((shl .u32 1 a2) - 1) % 4294967296), a2)) else (none)) = some (r1, r2, r3) := h
  clear h
  by_cases c4 : 0 ≤ a2
  · rw [if_pos c4] at H
    have c4b0 := eq_true c4
    have c4b1 : decide (0 ≤ a2) = true := decide_eq_true c4
    clear c4
    obtain ⟨ji5, hji5⟩ : ∃ j_ : Int, (shl .u32 1 a2) = j_ := ⟨_, rfl⟩
    replace H : (some (Go.bits .andNot .u32 a0 (((ji5) - 1) % 4294967296), Go.bits .andNot .u32 a1 (((ji5) - 1) % 4294967296), a2)) = some (r1, r2, r3) := by first | (rw [hji5] at H; exact H) | (simp only [hji5] at H ⊢; exact H)
    have hji5_ : (IntKind.u32.wrap (1 * 2 ^ min a2.toNat 32)) = ji5 := hji5
    have hji5z : a2 ≤ 32 → (IntKind.u32.wrap (1 * 2 ^ a2.toNat)) = ji5 := shl_small hji5
    have hji5u : (IntKind.u32.wrap (2 ^ min a2.toNat 32)) = ji5 := by have h_ := hji5_; rw [Int.one_mul] at h_; exact h_
    have hji5v : a2 ≤ 32 → (IntKind.u32.wrap (2 ^ a2.toNat)) = ji5 := fun hle_ => by have h_ := hji5z hle_; rw [Int.one_mul] at h_; exact h_
    simp only [Option.some.injEq, Prod.mk.injEq] at H
    obtain ⟨rfl, rfl, rfl⟩ := H
    go_enter Try.func89, Try.ntmps89
    go_wp2_with (first | ((with_reducible refine gate_dst (N := 6) rfl ?_); refine box_event ?hg (N := 6) ?hd (cs := #[.int .u32 0, .int .u32 0, .int .i64 0]) (t := 30) ?hr ?_; (case hd => rfl); (case hg => rfl); (case hr => first | (go_simp; done) | (go_simp; rfl)); intro gb119 hg w6 hbox hb; have n0_ := Aside0.mk (below_step (by repeat (first | (with_reducible first | exact HB.out | apply below_alloc | apply pw_below_drewN | apply below_drew1) | exact HB.out)) hb); have n1_ := Aside0.mk (hbox); have n2_ := Aside0.mk ((by rw [hg]; exact (below_size (by repeat (first | (with_reducible first | exact HB.out | apply below_alloc | apply pw_below_drewN | apply below_drew1) | exact HB.out))) : w.heap.size ≤ gb119)); have n3_ := Aside0.mk ((by rw [hg]; exact (below_size (by repeat (first | (with_reducible first | exact HB.out | apply below_alloc | apply pw_below_drewN | apply below_drew1) | exact HB.out))) : w.heap.size ≤ gb119)); clear HB; have HB := n0_; have BK119 := n1_; have GW119 := n2_; have GE119 := n3_; clear n0_ n1_ n2_ n3_; clear hb hbox hg; have hcz7_0 : w6.cell? ⟨gb119, 0, none⟩ = some (.int .u32 0) := (blk_cell BK119.out 0).trans rfl; have hcz7_1 : w6.cell? ⟨gb119, 1, none⟩ = some (.int .u32 0) := (blk_cell BK119.out 1).trans rfl; have hcz7_2 : w6.cell? ⟨gb119, 2, none⟩ = some (.int .i64 0) := (blk_cell BK119.out 2).trans rfl; have hfz7_0 := blk_frozen BK119.out 0; have hfz7_1 := blk_frozen BK119.out 1; have hfz7_2 := blk_frozen BK119.out 2))
    refine bodyPost_ret (results_cell_row rfl _ _ gb119 30 #[.int .u32 (Go.bits .andNot .u32 a0 (((ji5) - 1) % 4294967296)), .int .u32 (Go.bits .andNot .u32 a1 (((ji5) - 1) % 4294967296)), .int .i64 a2] (0, 0) _ rfl (by (with_reducible repeat (first | refine blk_drewN ?_ _ | refine blk_drew ?_ | refine blk_alloc ?_ _)); refine blk_put (cs := #[.int .u32 (Go.bits .andNot .u32 a0 (((ji5) - 1) % 4294967296)), .int .u32 (Go.bits .andNot .u32 a1 (((ji5) - 1) % 4294967296)), .int .i64 0]) ?_ 2 _ (by first | rfl | (simp; done)); (with_reducible repeat (first | refine blk_drewN ?_ _ | refine blk_drew ?_ | refine blk_alloc ?_ _)); refine blk_put (cs := #[.int .u32 (Go.bits .andNot .u32 a0 (((ji5) - 1) % 4294967296)), .int .u32 0, .int .i64 0]) ?_ 1 _ (by first | rfl | (simp; done)); (with_reducible repeat (first | refine blk_drewN ?_ _ | refine blk_drew ?_ | refine blk_alloc ?_ _)); refine blk_put (cs := #[.int .u32 0, .int .u32 0, .int .i64 0]) ?_ 0 _ (by first | rfl | (simp; done)); (with_reducible repeat (first | refine blk_drewN ?_ _ | refine blk_drew ?_ | refine blk_alloc ?_ _)); exact BK119.out) Try.underlying30 rfl (by kernel_rfl)) rfl ?_
    exact ⟨by first | rfl | (simp [errW_none, errW_some] <;> rfl) | (simp only [← hji5]; first | rfl | (simp [errW_none, errW_some] <;> rfl)) | (simp [*, errW_none, errW_some] <;> rfl), by repeat (first | (with_reducible first | exact HB.out | apply below_alloc | apply pw_below_drewN | apply below_drew1 | refine below_set ?_ GE119.out) | exact HB.out)⟩
  · rw [if_neg c4] at H
    exact absurd H (by simp)

end Go.Proofs.Ytojmfbdioaocpaa.P

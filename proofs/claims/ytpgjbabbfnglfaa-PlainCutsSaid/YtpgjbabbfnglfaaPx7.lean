-- Laid by a program of this session: the walk of functions of the translation, for this claim.
import Derived.Test.YtpgjbabbfnglfaaPx0
namespace Go.Proofs.Ytpgjbabbfnglfaa.P
open Go.RowKit Go.Proofs.YtpgjbabbfnglfaaOwn Go.Proofs.YtpgjbabbfnglfaaW.PrintWords Go.Proofs.YtpgjbabbfnglfaaW.PrintLast Go.Proofs.YtpgjbabbfnglfaaW.PrintMore
attribute [local go_sem] max2_int min2_int max_two min_two max_three min_three max_four min_four   -- for this text's walks alone
set_option linter.unusedVariables false
set_option linter.unusedSimpArgs false

/-! ### sphragislaw12_few: function 13 -/
def sphragislaw12_few.f (l0 : List (S26)) : Option ((List (S26))) := if 0 ≤ (mn (l0.length : Int) 60) then (if (mn (l0.length : Int) 60) ≤ (l0.length : Int) then (some (l0.take ((mn (l0.length : Int) 60) : Int).toNat)) else (none)) else (none)
set_option maxHeartbeats 8000000 in
set_option maxRecDepth 100000 in
theorem sphragislaw12_few.calls (P0_ : Nat → Prop) (A0 : Option Addr) (c0 : Nat) (l0 : List (S26)) (r : List (S26)) (w : World) (hs0 : Kd.V k26 26 w w.heap.size (fun k_ => P0_ k_) (.slice A0 l0.length c0) l0) (h : sphragislaw12_few.f l0 = some r) :
    Calls Try.prog 13 #[.slice A0 l0.length c0] w fun e w' => ∃ v0_ : Value, e = .returned (v0_) ∧ Kd.V k26 26 w' w.heap.size (fun k_ => (P0_ k_ ∨ w.heap.size ≤ k_)) v0_ r ∧ Below w.heap.size w w' := by
  have HO0 := Aside0.mk (show Kd.V k26 26 w w.heap.size (fun k_ => (P0_ k_ ∨ w.heap.size ≤ k_)) (.slice A0 l0.length c0) l0 from Kd.V_mono hs0 (fun k_ hk => .inl hk))
  have HB := Aside0.mk (Below.refl w.heap.size w)
  have H : (if 0 ≤ (mn (l0.length : Int) 60) then (if (mn (l0.length : Int) 60) ≤ (l0.length : Int) then (some (l0.take ((mn (l0.length : Int) 60) : Int).toNat)) else (none)) else (none)) = some r := h
  clear h
  obtain ⟨ji2, hji2⟩ : ∃ j_ : Int, (mn (l0.length : Int) 60) = j_ := ⟨_, rfl⟩
  replace H : (if 0 ≤ (ji2) then (if (ji2) ≤ (l0.length : Int) then (some (l0.take ((ji2) : Int).toNat)) else (none)) else (none)) = some r := by first | (rw [hji2] at H; exact H) | (simp only [hji2] at H ⊢; exact H)
  (try (have hji2h : ji2 ≤ 60 := by (rw [← hji2]; unfold mn; (repeat' split) <;> omega)))
  (try (have hji2g : ji2 ≤ 64 := by omega))
  (try (have hji2l : 0 ≤ ji2 := by (rw [← hji2]; unfold mn; (repeat' split) <;> omega)))
  (try (have hji2m : 0 ≤ ji2 := by omega))
  have hji2_ : (if 60 < (l0.length : Int) then 60 else (l0.length : Int)) = ji2 := hji2
  by_cases c3 : 0 ≤ (ji2)
  · rw [if_pos c3] at H
    have c3b0 := eq_true c3
    have c3b1 : decide (0 ≤ (ji2)) = true := decide_eq_true c3
    clear c3
    by_cases c4 : (ji2) ≤ (l0.length : Int)
    · rw [if_pos c4] at H
      have c4b0 := eq_true c4
      have c4b1 : decide ((ji2) ≤ (l0.length : Int)) = true := decide_eq_true c4
      clear c4
      obtain ⟨y127, hy127⟩ : ∃ y_ : List (S26), y_ = (l0.take ((ji2) : Int).toNat) := ⟨_, rfl⟩
      replace H : (some y127) = some r := by first | (rw [hy127]; with_reducible exact H) | (have H2_ := (Option.bind_some _ _).symm.trans H; rw [hy127]; with_reducible exact H2_) | (have H2_ := (Option.bind_some _ _).symm.trans H; with_reducible exact H2_) | with_reducible exact H | (rw [hy127]; exact H) | exact H
      have Ny127 := Aside0.mk hy127
      clear hy127
      obtain rfl := Option.some.inj H
      have q5 : ((ji2) : Int) ≤ ((l0.length : Int) : Int) := of_decide_eq_true (by first | (with_reducible assumption) | assumption)
      obtain ⟨i05, hi05, _, hsz5, _⟩ := info_parts info26
      have hroom5 : l0.length ≤ c0 := (Kd.V_reads' HO0.out).2.1
      have hC5 : Kd.F k26 _ _ A0 l0.length l0 := (Kd.V_at (base := w.heap.size) HO0.out).2.2
      have hcut5 := cut_to (P := Try.prog) 22 26 .i64 Try.underlying22 hi05 A0 l0.length c0 (ji2) (of_decide_eq_true (by first | (with_reducible assumption) | assumption)) q5 hroom5
      have hr5 := Kd.F_take (m := ((ji2) : Int).toNat) hC5 (by omega)
      have hy5 : y127.length = ((ji2) : Int).toNat := (by rw [Ny127.out, List.length_take]; omega)
      rw [← Ny127.out] at hr5
      rw [← hy5] at hcut5
      have HO131 := Aside0.mk (show Kd.V k26 26 _ w.heap.size _ (.slice A0 y127.length c0) y127 from Kd.V_mk (by omega) hr5)
      have HC131 := Aside0.mk (show y127.length ≤ c0 from by omega)
      clear hr5 hC5 hroom5 hi05 hsz5
      have KY5 := Aside0.mk hy5
      clear hy5
      replace q5 := eq_true q5
      go_enter Try.func13, Try.ntmps13
      go_wp2
      go_ret
      exact ⟨_, by first | rfl | (simp [errW_none, errW_some] <;> rfl) | (simp only [← hji2]; first | rfl | (simp [errW_none, errW_some] <;> rfl)) | (simp [*, errW_none, errW_some] <;> rfl), by (with_reducible repeat (first | apply Kd.V_alloc | apply Kd.V_drewN | apply Kd.V_drew)); exact HO131.out, by repeat (first | (with_reducible first | exact HB.out | apply below_alloc | apply pw_below_drewN | apply below_drew1) | exact HB.out)⟩
    · rw [if_neg c4] at H
      exact absurd H (by simp)
  · rw [if_neg c3] at H
    exact absurd H (by simp)

/-! ### sphragisref09_RightRow: function 26 -/
def sphragisref09_RightRow.f (a0_0 : Int) (a0_1 : Int) (a0_2 : Int) (a0_3 : ByteArray) : Option (Bool) := if a0_1 < 2147483648 then (if a0_2 < 2147483648 then (some (decide ((a0_3.size : Int) ≤ 16))) else (some false)) else (some false)
set_option maxHeartbeats 8000000 in
set_option maxRecDepth 100000 in
theorem sphragisref09_RightRow.calls (a0_0 : Int) (a0_1 : Int) (a0_2 : Int) (a0_3 : ByteArray) (r : Bool) (w : World) (h : sphragisref09_RightRow.f a0_0 a0_1 a0_2 a0_3 = some r) :
    Calls Try.prog 26 #[.agg #[.int .u64 a0_0, .int .u32 a0_1, .int .u32 a0_2, .string a0_3]] w fun e w' => e = .returned (.bool r) ∧ Below w.heap.size w w' := by
  have hu26 := Try.underlying26
  have HB := Aside0.mk (Below.refl w.heap.size w)
  have H : (if a0_1 < 2147483648 then (if a0_2 < 2147483648 then (some (decide ((a0_3.size : Int) ≤ 16))) else (some false)) else (some false)) = some r := h
  clear h
  by_cases c2 : a0_1 < 2147483648
  · rw [if_pos c2] at H
    have c2b0 : decide (a0_1 < 2147483648) = true := decide_eq_true c2
    clear c2
    by_cases c3 : a0_2 < 2147483648
    · rw [if_pos c3] at H
      have c3b0 : decide (a0_2 < 2147483648) = true := decide_eq_true c3
      clear c3
      obtain rfl := Option.some.inj H
      go_enter Try.func26, Try.ntmps26
      go_wp2_with (first | ((with_reducible refine gate_dst (N := 1) rfl ?_); (try (refine gate_guard (by rfl) ?_; dsimp only)); refine box_event ?hg (N := 1) ?hd (cs := #[.int .u64 a0_0, .int .u32 a0_1, .int .u32 a0_2, .string a0_3]) (t := 26) ?hr ?_; (case hd => rfl); (case hg => rfl); (case hr => first | (go_simp; done) | (go_simp; rfl)); intro gb132 hg w4 hbox hb; have n0_ := Aside0.mk (below_step (by repeat (first | (with_reducible first | exact HB.out | apply below_alloc | apply pw_below_drewN | apply below_drew1) | exact HB.out)) hb); have n1_ := Aside0.mk (hbox); have n2_ := Aside0.mk ((by rw [hg]; exact (below_size (by repeat (first | (with_reducible first | exact HB.out | apply below_alloc | apply pw_below_drewN | apply below_drew1) | exact HB.out))) : w.heap.size ≤ gb132)); have n3_ := Aside0.mk ((by rw [hg]; exact (below_size (by repeat (first | (with_reducible first | exact HB.out | apply below_alloc | apply pw_below_drewN | apply below_drew1) | exact HB.out))) : w.heap.size ≤ gb132)); clear HB; have HB := n0_; have BK132 := n1_; have GW132 := n2_; have GE132 := n3_; clear n0_ n1_ n2_ n3_; clear hb hbox hg; have hcz5_0 : w4.cell? ⟨gb132, 0, none⟩ = some (.int .u64 a0_0) := (blk_cell BK132.out 0).trans rfl; have hcz5_1 : w4.cell? ⟨gb132, 1, none⟩ = some (.int .u32 a0_1) := (blk_cell BK132.out 1).trans rfl; have hcz5_2 : w4.cell? ⟨gb132, 2, none⟩ = some (.int .u32 a0_2) := (blk_cell BK132.out 2).trans rfl; have hcz5_3 : w4.cell? ⟨gb132, 3, none⟩ = some (.string a0_3) := (blk_cell BK132.out 3).trans rfl; have hfz5_0 := blk_frozen BK132.out 0; have hfz5_1 := blk_frozen BK132.out 1; have hfz5_2 := blk_frozen BK132.out 2; have hfz5_3 := blk_frozen BK132.out 3))
      go_ret
      exact ⟨by first | rfl | (simp [errW_none, errW_some] <;> rfl) | (simp [*, errW_none, errW_some] <;> rfl), by repeat (first | (with_reducible first | exact HB.out | apply below_alloc | apply pw_below_drewN | apply below_drew1 | refine below_set ?_ GE132.out) | exact HB.out)⟩
    · rw [if_neg c3] at H
      have c3b0 : decide (a0_2 < 2147483648) = false := decide_eq_false c3
      clear c3
      obtain rfl := Option.some.inj H
      go_enter Try.func26, Try.ntmps26
      go_wp2_with (first | ((with_reducible refine gate_dst (N := 1) rfl ?_); (try (refine gate_guard (by rfl) ?_; dsimp only)); refine box_event ?hg (N := 1) ?hd (cs := #[.int .u64 a0_0, .int .u32 a0_1, .int .u32 a0_2, .string a0_3]) (t := 26) ?hr ?_; (case hd => rfl); (case hg => rfl); (case hr => first | (go_simp; done) | (go_simp; rfl)); intro gb132 hg w6 hbox hb; have n0_ := Aside0.mk (below_step (by repeat (first | (with_reducible first | exact HB.out | apply below_alloc | apply pw_below_drewN | apply below_drew1) | exact HB.out)) hb); have n1_ := Aside0.mk (hbox); have n2_ := Aside0.mk ((by rw [hg]; exact (below_size (by repeat (first | (with_reducible first | exact HB.out | apply below_alloc | apply pw_below_drewN | apply below_drew1) | exact HB.out))) : w.heap.size ≤ gb132)); have n3_ := Aside0.mk ((by rw [hg]; exact (below_size (by repeat (first | (with_reducible first | exact HB.out | apply below_alloc | apply pw_below_drewN | apply below_drew1) | exact HB.out))) : w.heap.size ≤ gb132)); clear HB; have HB := n0_; have BK132 := n1_; have GW132 := n2_; have GE132 := n3_; clear n0_ n1_ n2_ n3_; clear hb hbox hg; have hcz7_0 : w6.cell? ⟨gb132, 0, none⟩ = some (.int .u64 a0_0) := (blk_cell BK132.out 0).trans rfl; have hcz7_1 : w6.cell? ⟨gb132, 1, none⟩ = some (.int .u32 a0_1) := (blk_cell BK132.out 1).trans rfl; have hcz7_2 : w6.cell? ⟨gb132, 2, none⟩ = some (.int .u32 a0_2) := (blk_cell BK132.out 2).trans rfl; have hcz7_3 : w6.cell? ⟨gb132, 3, none⟩ = some (.string a0_3) := (blk_cell BK132.out 3).trans rfl; have hfz7_0 := blk_frozen BK132.out 0; have hfz7_1 := blk_frozen BK132.out 1; have hfz7_2 := blk_frozen BK132.out 2; have hfz7_3 := blk_frozen BK132.out 3))
      go_ret
      exact ⟨by first | rfl | (simp [errW_none, errW_some] <;> rfl) | (simp [*, errW_none, errW_some] <;> rfl), by repeat (first | (with_reducible first | exact HB.out | apply below_alloc | apply pw_below_drewN | apply below_drew1 | refine below_set ?_ GE132.out) | exact HB.out)⟩
  · rw [if_neg c2] at H
    have c2b0 : decide (a0_1 < 2147483648) = false := decide_eq_false c2
    clear c2
    obtain rfl := Option.some.inj H
    go_enter Try.func26, Try.ntmps26
    go_wp2_with (first | ((with_reducible refine gate_dst (N := 1) rfl ?_); (try (refine gate_guard (by rfl) ?_; dsimp only)); refine box_event ?hg (N := 1) ?hd (cs := #[.int .u64 a0_0, .int .u32 a0_1, .int .u32 a0_2, .string a0_3]) (t := 26) ?hr ?_; (case hd => rfl); (case hg => rfl); (case hr => first | (go_simp; done) | (go_simp; rfl)); intro gb132 hg w8 hbox hb; have n0_ := Aside0.mk (below_step (by repeat (first | (with_reducible first | exact HB.out | apply below_alloc | apply pw_below_drewN | apply below_drew1) | exact HB.out)) hb); have n1_ := Aside0.mk (hbox); have n2_ := Aside0.mk ((by rw [hg]; exact (below_size (by repeat (first | (with_reducible first | exact HB.out | apply below_alloc | apply pw_below_drewN | apply below_drew1) | exact HB.out))) : w.heap.size ≤ gb132)); have n3_ := Aside0.mk ((by rw [hg]; exact (below_size (by repeat (first | (with_reducible first | exact HB.out | apply below_alloc | apply pw_below_drewN | apply below_drew1) | exact HB.out))) : w.heap.size ≤ gb132)); clear HB; have HB := n0_; have BK132 := n1_; have GW132 := n2_; have GE132 := n3_; clear n0_ n1_ n2_ n3_; clear hb hbox hg; have hcz9_0 : w8.cell? ⟨gb132, 0, none⟩ = some (.int .u64 a0_0) := (blk_cell BK132.out 0).trans rfl; have hcz9_1 : w8.cell? ⟨gb132, 1, none⟩ = some (.int .u32 a0_1) := (blk_cell BK132.out 1).trans rfl; have hcz9_2 : w8.cell? ⟨gb132, 2, none⟩ = some (.int .u32 a0_2) := (blk_cell BK132.out 2).trans rfl; have hcz9_3 : w8.cell? ⟨gb132, 3, none⟩ = some (.string a0_3) := (blk_cell BK132.out 3).trans rfl; have hfz9_0 := blk_frozen BK132.out 0; have hfz9_1 := blk_frozen BK132.out 1; have hfz9_2 := blk_frozen BK132.out 2; have hfz9_3 := blk_frozen BK132.out 3))
    go_ret
    exact ⟨by first | rfl | (simp [errW_none, errW_some] <;> rfl) | (simp [*, errW_none, errW_some] <;> rfl), by repeat (first | (with_reducible first | exact HB.out | apply below_alloc | apply pw_below_drewN | apply below_drew1 | refine below_set ?_ GE132.out) | exact HB.out)⟩

/-! ### sphragisref09_Right: function 25 -/
def sphragisref09_Right.l0 : Nat → List (S26) → Int → Option (Bool)
  | 0, _, _ => none
  | k + 1, x0, x3 => if x3 < (x0.length : Int) then (if 0 ≤ x3 then ((sphragisref09_RightRow.f ((rd_T26 x0 x3).f0) ((rd_T26 x0 x3).f1) ((rd_T26 x0 x3).f2) ((rd_T26 x0 x3).f3)).bind fun t134 => (if t134 = true then (if x3 > 0 then (if 0 ≤ (wrap64 (x3 - 1)) then (if (wrap64 (x3 - 1)) < (x0.length : Int) then (if ((rd_T26 x0 (wrap64 (x3 - 1))).f0) ≥ ((rd_T26 x0 x3).f0) then (some false) else (sphragisref09_Right.l0 k x0 (wrap64 (x3 + 1)))) else (none)) else (none)) else (sphragisref09_Right.l0 k x0 (wrap64 (x3 + 1)))) else (some false))) else (none)) else (some true)
def sphragisref09_Right.f (k : Nat) (l0 : List (S26)) : Option (Bool) := if (l0.length : Int) > 1000 then (some false) else (sphragisref09_Right.l0 k l0 0)
theorem sphragisref09_Right.mono_l : ∀ k, (∀ y0 y1, LeO (sphragisref09_Right.l0 k y0 y1) (sphragisref09_Right.l0 (k + 1) y0 y1))
  | 0 => fun _ _ r h => by simp [sphragisref09_Right.l0] at h
  | k + 1 => by
    have ih0 := sphragisref09_Right.mono_l k
    · intro y0 y1
      unfold sphragisref09_Right.l0
      repeat' first
      | (with_reducible exact ih0 _ _)
      | (with_reducible exact LeO.refl _)
      | (with_reducible exact LeO.none _)
      | (with_reducible refine LeO.ite ?_ ?_)
      | (with_reducible refine LeO.bind ?_ (fun _ => ?_))
      | exact ih0 _ _
      | exact LeO.none _
      | refine LeO.ite ?_ ?_
      | refine LeO.bind ?_ (fun _ => ?_)
theorem sphragisref09_Right.mono : ∀ a0 k, LeO (sphragisref09_Right.f k a0) (sphragisref09_Right.f (k + 1) a0) := by
  intro a0 k
  have ih0 := sphragisref09_Right.mono_l k
  unfold sphragisref09_Right.f
  repeat' first
      | (with_reducible exact ih0 _ _)
      | (with_reducible exact LeO.refl _)
      | (with_reducible exact LeO.none _)
      | (with_reducible refine LeO.ite ?_ ?_)
      | (with_reducible refine LeO.bind ?_ (fun _ => ?_))
      | exact ih0 _ _
      | exact LeO.none _
      | refine LeO.ite ?_ ?_
      | refine LeO.bind ?_ (fun _ => ?_)
set_option maxHeartbeats 8000000 in
set_option maxRecDepth 100000 in
theorem sphragisref09_Right.calls (k : Nat) (A0 : Option Addr) (c0 : Nat) (l0 : List (S26)) (r : Bool) (w : World) (hr0 : Kd.C k26 w A0 l0.length l0) (hc0 : l0.length ≤ c0) (h : sphragisref09_Right.f k l0 = some r) :
    Calls Try.prog 25 #[.slice A0 l0.length c0] w fun e w' => e = .returned (.bool r) ∧ Below w.heap.size w w' := by
  have hu26 := Try.underlying26
  have HR0 := Aside0.mk hr0
  have HC0 := Aside0.mk hc0
  clear hr0 hc0
  have HB := Aside0.mk (Below.refl w.heap.size w)
  have H : (if (l0.length : Int) > 1000 then (some false) else (sphragisref09_Right.l0 k l0 0)) = some r := h
  clear h
  by_cases c2 : (l0.length : Int) > 1000
  · rw [if_pos c2] at H
    have c2b0 : decide (1000 < (l0.length : Int)) = true := decide_eq_true c2
    have c2b1 : decide (1000 < l0.length) = true := decide_eq_true (by omega)
    clear c2
    obtain rfl := Option.some.inj H
    go_enter Try.func25, Try.ntmps25
    go_wp2
    repeat (go_quiet (fail); try go_wp2)
    go_ret
    exact ⟨by first | rfl | (simp [errW_none, errW_some] <;> rfl) | (simp [*, errW_none, errW_some] <;> rfl), by repeat (first | (with_reducible first | exact HB.out | apply below_alloc | apply pw_below_drewN | apply below_drew1) | exact HB.out)⟩
  · rw [if_neg c2] at H
    have c2b0 : decide (1000 < (l0.length : Int)) = false := decide_eq_false c2
    have c2b1 : decide (1000 < l0.length) = false := decide_eq_false (by omega)
    clear c2
    have H' := Aside0.mk H
    clear H
    go_enter Try.func25, Try.ntmps25
    go_wp2
    repeat (go_quiet (fail); try go_wp2)
    go_loopg [3] k (fun kq v3 w' => ∃ (x3_1 : Int), v3 = .int .i64 x3_1 ∧ Aside0 (sphragisref09_Right.l0 kq l0 x3_1 = some r) ∧ Aside0 (kq ≤ k) ∧ Aside0 (Below w.heap.size w w'))
    case atStart => exact ⟨(0), (by first | rfl | (simp; done) | (simp [*]; done)), H', ⟨Nat.le_refl _⟩, ⟨by repeat (first | (with_reducible first | exact HB.out | apply below_alloc | apply pw_below_drewN | apply below_drew1) | exact HB.out)⟩⟩
    case round =>
      clear H'
      try clear c2
      try clear c2b0
      try clear c2b1
      try clear p2
      obtain ⟨x3_1, rfl, HA, HK1, HB⟩ := hrel
      cases gk with
      | zero => exact absurd HA.out (by simp [sphragisref09_Right.l0])
      | succ k1 =>
        have H := HA.out
        clear HA
        simp only [sphragisref09_Right.l0] at H
        by_cases c3 : x3_1 < (l0.length : Int)
        · rw [if_pos c3] at H
          have c3b0 : decide (x3_1 < (l0.length : Int)) = true := decide_eq_true c3
          clear c3
          by_cases c4 : 0 ≤ x3_1
          · rw [if_pos c4] at H
            have c4b0 : decide (0 ≤ x3_1) = true := decide_eq_true c4
            clear c4
            replace H := Option.bind_eq_some_iff.mp H
            obtain ⟨t134, A50, H⟩ := H
            replace H : (if t134 = true then (if x3_1 > 0 then (if 0 ≤ (wrap64 (x3_1 - 1)) then (if (wrap64 (x3_1 - 1)) < (l0.length : Int) then (if ((rd_T26 l0 (wrap64 (x3_1 - 1))).f0) ≥ ((rd_T26 l0 x3_1).f0) then (some false) else (sphragisref09_Right.l0 k1 l0 (wrap64 (x3_1 + 1)))) else (none)) else (none)) else (sphragisref09_Right.l0 k1 l0 (wrap64 (x3_1 + 1)))) else (some false)) = some r := H
            have A5 := Aside0.mk A50
            clear A50
            by_cases c6 : t134 = true
            · subst c6
              have H1 : (if x3_1 > 0 then (if 0 ≤ (wrap64 (x3_1 - 1)) then (if (wrap64 (x3_1 - 1)) < (l0.length : Int) then (if ((rd_T26 l0 (wrap64 (x3_1 - 1))).f0) ≥ ((rd_T26 l0 x3_1).f0) then (some false) else (sphragisref09_Right.l0 k1 l0 (wrap64 (x3_1 + 1)))) else (none)) else (none)) else (sphragisref09_Right.l0 k1 l0 (wrap64 (x3_1 + 1)))) = some r := by rw [if_pos rfl] at H; exact H
              clear H
              have H := H1
              clear H1
              by_cases c7 : x3_1 > 0
              · rw [if_pos c7] at H
                have c7b0 : decide (0 < x3_1) = true := decide_eq_true c7
                clear c7
                obtain ⟨ji8, hji8⟩ : ∃ j_ : Int, (wrap64 (x3_1 - 1)) = j_ := ⟨_, rfl⟩
                replace H : (if 0 ≤ (ji8) then (if (ji8) < (l0.length : Int) then (if ((rd_T26 l0 (ji8)).f0) ≥ ((rd_T26 l0 x3_1).f0) then (some false) else (sphragisref09_Right.l0 k1 l0 (wrap64 (x3_1 + 1)))) else (none)) else (none)) = some r := by first | (rw [hji8] at H; exact H) | (simp only [hji8] at H ⊢; exact H)
                (try rw [hji8] at A5)
                have hji8w : (IntKind.i64.wrap (x3_1 - 1)) = ji8 := (i64_w _).trans hji8
                by_cases c9 : 0 ≤ (ji8)
                · rw [if_pos c9] at H
                  have c9b0 : decide (0 ≤ (ji8)) = true := decide_eq_true c9
                  clear c9
                  by_cases c10 : (ji8) < (l0.length : Int)
                  · rw [if_pos c10] at H
                    have c10b0 : decide ((ji8) < (l0.length : Int)) = true := decide_eq_true c10
                    clear c10
                    by_cases c11 : ((rd_T26 l0 (ji8)).f0) ≥ ((rd_T26 l0 x3_1).f0)
                    · rw [if_pos c11] at H
                      have c11b0 : decide (((rd_T26 l0 x3_1).f0) ≤ ((rd_T26 l0 (ji8)).f0)) = true := decide_eq_true c11
                      clear c11
                      obtain rfl := Option.some.inj H
                      have p133 : 0 ≤ (x3_1 : Int) := of_decide_eq_true (by first | (with_reducible assumption) | assumption)
                      have q133 : x3_1 < (l0.length : Int) := of_decide_eq_true (by first | (with_reducible assumption) | assumption)
                      obtain ⟨ad133, e133, hx133_0, hx133_1, hx133_2, hx133_3⟩ := at_T26 HR0.out x3_1 p133 q133
                      cases e133
                      replace hx133_0 := (HB.out.cell (World.block_lt_of_cell? w _ hx133_0)).trans hx133_0
                      replace hx133_1 := (HB.out.cell (World.block_lt_of_cell? w _ hx133_1)).trans hx133_1
                      replace hx133_2 := (HB.out.cell (World.block_lt_of_cell? w _ hx133_2)).trans hx133_2
                      replace hx133_3 := (HB.out.cell (World.block_lt_of_cell? w _ hx133_3)).trans hx133_3
                      replace p133 := eq_true p133
                      replace q133 := eq_true q133
                      go_wp2_with (first | (go_at_call 26; (with_reducible refine (sphragisref09_RightRow.calls ((rd_T26 l0 x3_1).f0) ((rd_T26 l0 x3_1).f1) ((rd_T26 l0 x3_1).f2) ((rd_T26 l0 x3_1).f3) true _ A5.out).mono ?_); rintro e w12 ⟨rfl, hb⟩; have n0_ := Aside0.mk (below_step (by repeat (first | (with_reducible first | exact HB.out | apply below_alloc | apply pw_below_drewN | apply below_drew1) | exact HB.out)) hb); clear HB; have HB := n0_; clear n0_; (try clear hb); (try clear hb2); (try clear hk); (try clear hi); have p135 : 0 ≤ ((ji8) : Int) := of_decide_eq_true (by first | (with_reducible assumption) | assumption); have q135 : (ji8) < (l0.length : Int) := of_decide_eq_true (by first | (with_reducible assumption) | assumption); obtain ⟨ad135, e135, hx135_0, hx135_1, hx135_2, hx135_3⟩ := at_T26 HR0.out (ji8) p135 q135; obtain rfl : ad133 = ad135 := (by injection e135); replace hx135_0 := (HB.out.cell (World.block_lt_of_cell? w _ hx135_0)).trans hx135_0; replace hx135_1 := (HB.out.cell (World.block_lt_of_cell? w _ hx135_1)).trans hx135_1; replace hx135_2 := (HB.out.cell (World.block_lt_of_cell? w _ hx135_2)).trans hx135_2; replace hx135_3 := (HB.out.cell (World.block_lt_of_cell? w _ hx135_3)).trans hx135_3; replace p135 := eq_true p135; replace q135 := eq_true q135; have p136 : 0 ≤ (x3_1 : Int) := of_decide_eq_true (by first | (with_reducible assumption) | assumption); have q136 : x3_1 < (l0.length : Int) := of_decide_eq_true (by first | (with_reducible assumption) | assumption); obtain ⟨ad136, e136, hx136_0, hx136_1, hx136_2, hx136_3⟩ := at_T26 HR0.out x3_1 p136 q136; obtain rfl : ad133 = ad136 := (by injection e136); replace hx136_0 := (HB.out.cell (World.block_lt_of_cell? w _ hx136_0)).trans hx136_0; replace hx136_1 := (HB.out.cell (World.block_lt_of_cell? w _ hx136_1)).trans hx136_1; replace hx136_2 := (HB.out.cell (World.block_lt_of_cell? w _ hx136_2)).trans hx136_2; replace hx136_3 := (HB.out.cell (World.block_lt_of_cell? w _ hx136_3)).trans hx136_3; replace p136 := eq_true p136; replace q136 := eq_true q136))
                      repeat (go_quiet (first | (go_at_call 26; (with_reducible refine (sphragisref09_RightRow.calls ((rd_T26 l0 x3_1).f0) ((rd_T26 l0 x3_1).f1) ((rd_T26 l0 x3_1).f2) ((rd_T26 l0 x3_1).f3) true _ A5.out).mono ?_); rintro e w12 ⟨rfl, hb⟩; have n0_ := Aside0.mk (below_step (by repeat (first | (with_reducible first | exact HB.out | apply below_alloc | apply pw_below_drewN | apply below_drew1) | exact HB.out)) hb); clear HB; have HB := n0_; clear n0_; (try clear hb); (try clear hb2); (try clear hk); (try clear hi); have p135 : 0 ≤ ((ji8) : Int) := of_decide_eq_true (by first | (with_reducible assumption) | assumption); have q135 : (ji8) < (l0.length : Int) := of_decide_eq_true (by first | (with_reducible assumption) | assumption); obtain ⟨ad135, e135, hx135_0, hx135_1, hx135_2, hx135_3⟩ := at_T26 HR0.out (ji8) p135 q135; obtain rfl : ad133 = ad135 := (by injection e135); replace hx135_0 := (HB.out.cell (World.block_lt_of_cell? w _ hx135_0)).trans hx135_0; replace hx135_1 := (HB.out.cell (World.block_lt_of_cell? w _ hx135_1)).trans hx135_1; replace hx135_2 := (HB.out.cell (World.block_lt_of_cell? w _ hx135_2)).trans hx135_2; replace hx135_3 := (HB.out.cell (World.block_lt_of_cell? w _ hx135_3)).trans hx135_3; replace p135 := eq_true p135; replace q135 := eq_true q135; have p136 : 0 ≤ (x3_1 : Int) := of_decide_eq_true (by first | (with_reducible assumption) | assumption); have q136 : x3_1 < (l0.length : Int) := of_decide_eq_true (by first | (with_reducible assumption) | assumption); obtain ⟨ad136, e136, hx136_0, hx136_1, hx136_2, hx136_3⟩ := at_T26 HR0.out x3_1 p136 q136; obtain rfl : ad133 = ad136 := (by injection e136); replace hx136_0 := (HB.out.cell (World.block_lt_of_cell? w _ hx136_0)).trans hx136_0; replace hx136_1 := (HB.out.cell (World.block_lt_of_cell? w _ hx136_1)).trans hx136_1; replace hx136_2 := (HB.out.cell (World.block_lt_of_cell? w _ hx136_2)).trans hx136_2; replace hx136_3 := (HB.out.cell (World.block_lt_of_cell? w _ hx136_3)).trans hx136_3; replace p136 := eq_true p136; replace q136 := eq_true q136)); try go_wp2_with (first | (go_at_call 26; (with_reducible refine (sphragisref09_RightRow.calls ((rd_T26 l0 x3_1).f0) ((rd_T26 l0 x3_1).f1) ((rd_T26 l0 x3_1).f2) ((rd_T26 l0 x3_1).f3) true _ A5.out).mono ?_); rintro e w12 ⟨rfl, hb⟩; have n0_ := Aside0.mk (below_step (by repeat (first | (with_reducible first | exact HB.out | apply below_alloc | apply pw_below_drewN | apply below_drew1) | exact HB.out)) hb); clear HB; have HB := n0_; clear n0_; (try clear hb); (try clear hb2); (try clear hk); (try clear hi); have p135 : 0 ≤ ((ji8) : Int) := of_decide_eq_true (by first | (with_reducible assumption) | assumption); have q135 : (ji8) < (l0.length : Int) := of_decide_eq_true (by first | (with_reducible assumption) | assumption); obtain ⟨ad135, e135, hx135_0, hx135_1, hx135_2, hx135_3⟩ := at_T26 HR0.out (ji8) p135 q135; obtain rfl : ad133 = ad135 := (by injection e135); replace hx135_0 := (HB.out.cell (World.block_lt_of_cell? w _ hx135_0)).trans hx135_0; replace hx135_1 := (HB.out.cell (World.block_lt_of_cell? w _ hx135_1)).trans hx135_1; replace hx135_2 := (HB.out.cell (World.block_lt_of_cell? w _ hx135_2)).trans hx135_2; replace hx135_3 := (HB.out.cell (World.block_lt_of_cell? w _ hx135_3)).trans hx135_3; replace p135 := eq_true p135; replace q135 := eq_true q135; have p136 : 0 ≤ (x3_1 : Int) := of_decide_eq_true (by first | (with_reducible assumption) | assumption); have q136 : x3_1 < (l0.length : Int) := of_decide_eq_true (by first | (with_reducible assumption) | assumption); obtain ⟨ad136, e136, hx136_0, hx136_1, hx136_2, hx136_3⟩ := at_T26 HR0.out x3_1 p136 q136; obtain rfl : ad133 = ad136 := (by injection e136); replace hx136_0 := (HB.out.cell (World.block_lt_of_cell? w _ hx136_0)).trans hx136_0; replace hx136_1 := (HB.out.cell (World.block_lt_of_cell? w _ hx136_1)).trans hx136_1; replace hx136_2 := (HB.out.cell (World.block_lt_of_cell? w _ hx136_2)).trans hx136_2; replace hx136_3 := (HB.out.cell (World.block_lt_of_cell? w _ hx136_3)).trans hx136_3; replace p136 := eq_true p136; replace q136 := eq_true q136)))
                      go_ret
                      exact ⟨by first | rfl | (simp [errW_none, errW_some] <;> rfl) | (simp only [← hji8]; first | rfl | (simp [errW_none, errW_some] <;> rfl)) | (simp [*, errW_none, errW_some] <;> rfl), by repeat (first | (with_reducible first | exact HB.out | apply below_alloc | apply pw_below_drewN | apply below_drew1) | exact HB.out)⟩
                    · rw [if_neg c11] at H
                      have c11b0 : decide (((rd_T26 l0 x3_1).f0) ≤ ((rd_T26 l0 (ji8)).f0)) = false := decide_eq_false c11
                      clear c11
                      have H' := Aside0.mk H
                      clear H
                      have p133 : 0 ≤ (x3_1 : Int) := of_decide_eq_true (by first | (with_reducible assumption) | assumption)
                      have q133 : x3_1 < (l0.length : Int) := of_decide_eq_true (by first | (with_reducible assumption) | assumption)
                      obtain ⟨ad133, e133, hx133_0, hx133_1, hx133_2, hx133_3⟩ := at_T26 HR0.out x3_1 p133 q133
                      cases e133
                      replace hx133_0 := (HB.out.cell (World.block_lt_of_cell? w _ hx133_0)).trans hx133_0
                      replace hx133_1 := (HB.out.cell (World.block_lt_of_cell? w _ hx133_1)).trans hx133_1
                      replace hx133_2 := (HB.out.cell (World.block_lt_of_cell? w _ hx133_2)).trans hx133_2
                      replace hx133_3 := (HB.out.cell (World.block_lt_of_cell? w _ hx133_3)).trans hx133_3
                      replace p133 := eq_true p133
                      replace q133 := eq_true q133
                      go_wp2_with (first | (go_at_call 26; (with_reducible refine (sphragisref09_RightRow.calls ((rd_T26 l0 x3_1).f0) ((rd_T26 l0 x3_1).f1) ((rd_T26 l0 x3_1).f2) ((rd_T26 l0 x3_1).f3) true _ A5.out).mono ?_); rintro e w13 ⟨rfl, hb⟩; have n0_ := Aside0.mk (below_step (by repeat (first | (with_reducible first | exact HB.out | apply below_alloc | apply pw_below_drewN | apply below_drew1) | exact HB.out)) hb); clear HB; have HB := n0_; clear n0_; (try clear hb); (try clear hb2); (try clear hk); (try clear hi); have p135 : 0 ≤ ((ji8) : Int) := of_decide_eq_true (by first | (with_reducible assumption) | assumption); have q135 : (ji8) < (l0.length : Int) := of_decide_eq_true (by first | (with_reducible assumption) | assumption); obtain ⟨ad135, e135, hx135_0, hx135_1, hx135_2, hx135_3⟩ := at_T26 HR0.out (ji8) p135 q135; obtain rfl : ad133 = ad135 := (by injection e135); replace hx135_0 := (HB.out.cell (World.block_lt_of_cell? w _ hx135_0)).trans hx135_0; replace hx135_1 := (HB.out.cell (World.block_lt_of_cell? w _ hx135_1)).trans hx135_1; replace hx135_2 := (HB.out.cell (World.block_lt_of_cell? w _ hx135_2)).trans hx135_2; replace hx135_3 := (HB.out.cell (World.block_lt_of_cell? w _ hx135_3)).trans hx135_3; replace p135 := eq_true p135; replace q135 := eq_true q135; have p136 : 0 ≤ (x3_1 : Int) := of_decide_eq_true (by first | (with_reducible assumption) | assumption); have q136 : x3_1 < (l0.length : Int) := of_decide_eq_true (by first | (with_reducible assumption) | assumption); obtain ⟨ad136, e136, hx136_0, hx136_1, hx136_2, hx136_3⟩ := at_T26 HR0.out x3_1 p136 q136; obtain rfl : ad133 = ad136 := (by injection e136); replace hx136_0 := (HB.out.cell (World.block_lt_of_cell? w _ hx136_0)).trans hx136_0; replace hx136_1 := (HB.out.cell (World.block_lt_of_cell? w _ hx136_1)).trans hx136_1; replace hx136_2 := (HB.out.cell (World.block_lt_of_cell? w _ hx136_2)).trans hx136_2; replace hx136_3 := (HB.out.cell (World.block_lt_of_cell? w _ hx136_3)).trans hx136_3; replace p136 := eq_true p136; replace q136 := eq_true q136))
                      repeat (go_quiet (first | (go_at_call 26; (with_reducible refine (sphragisref09_RightRow.calls ((rd_T26 l0 x3_1).f0) ((rd_T26 l0 x3_1).f1) ((rd_T26 l0 x3_1).f2) ((rd_T26 l0 x3_1).f3) true _ A5.out).mono ?_); rintro e w13 ⟨rfl, hb⟩; have n0_ := Aside0.mk (below_step (by repeat (first | (with_reducible first | exact HB.out | apply below_alloc | apply pw_below_drewN | apply below_drew1) | exact HB.out)) hb); clear HB; have HB := n0_; clear n0_; (try clear hb); (try clear hb2); (try clear hk); (try clear hi); have p135 : 0 ≤ ((ji8) : Int) := of_decide_eq_true (by first | (with_reducible assumption) | assumption); have q135 : (ji8) < (l0.length : Int) := of_decide_eq_true (by first | (with_reducible assumption) | assumption); obtain ⟨ad135, e135, hx135_0, hx135_1, hx135_2, hx135_3⟩ := at_T26 HR0.out (ji8) p135 q135; obtain rfl : ad133 = ad135 := (by injection e135); replace hx135_0 := (HB.out.cell (World.block_lt_of_cell? w _ hx135_0)).trans hx135_0; replace hx135_1 := (HB.out.cell (World.block_lt_of_cell? w _ hx135_1)).trans hx135_1; replace hx135_2 := (HB.out.cell (World.block_lt_of_cell? w _ hx135_2)).trans hx135_2; replace hx135_3 := (HB.out.cell (World.block_lt_of_cell? w _ hx135_3)).trans hx135_3; replace p135 := eq_true p135; replace q135 := eq_true q135; have p136 : 0 ≤ (x3_1 : Int) := of_decide_eq_true (by first | (with_reducible assumption) | assumption); have q136 : x3_1 < (l0.length : Int) := of_decide_eq_true (by first | (with_reducible assumption) | assumption); obtain ⟨ad136, e136, hx136_0, hx136_1, hx136_2, hx136_3⟩ := at_T26 HR0.out x3_1 p136 q136; obtain rfl : ad133 = ad136 := (by injection e136); replace hx136_0 := (HB.out.cell (World.block_lt_of_cell? w _ hx136_0)).trans hx136_0; replace hx136_1 := (HB.out.cell (World.block_lt_of_cell? w _ hx136_1)).trans hx136_1; replace hx136_2 := (HB.out.cell (World.block_lt_of_cell? w _ hx136_2)).trans hx136_2; replace hx136_3 := (HB.out.cell (World.block_lt_of_cell? w _ hx136_3)).trans hx136_3; replace p136 := eq_true p136; replace q136 := eq_true q136)); try go_wp2_with (first | (go_at_call 26; (with_reducible refine (sphragisref09_RightRow.calls ((rd_T26 l0 x3_1).f0) ((rd_T26 l0 x3_1).f1) ((rd_T26 l0 x3_1).f2) ((rd_T26 l0 x3_1).f3) true _ A5.out).mono ?_); rintro e w13 ⟨rfl, hb⟩; have n0_ := Aside0.mk (below_step (by repeat (first | (with_reducible first | exact HB.out | apply below_alloc | apply pw_below_drewN | apply below_drew1) | exact HB.out)) hb); clear HB; have HB := n0_; clear n0_; (try clear hb); (try clear hb2); (try clear hk); (try clear hi); have p135 : 0 ≤ ((ji8) : Int) := of_decide_eq_true (by first | (with_reducible assumption) | assumption); have q135 : (ji8) < (l0.length : Int) := of_decide_eq_true (by first | (with_reducible assumption) | assumption); obtain ⟨ad135, e135, hx135_0, hx135_1, hx135_2, hx135_3⟩ := at_T26 HR0.out (ji8) p135 q135; obtain rfl : ad133 = ad135 := (by injection e135); replace hx135_0 := (HB.out.cell (World.block_lt_of_cell? w _ hx135_0)).trans hx135_0; replace hx135_1 := (HB.out.cell (World.block_lt_of_cell? w _ hx135_1)).trans hx135_1; replace hx135_2 := (HB.out.cell (World.block_lt_of_cell? w _ hx135_2)).trans hx135_2; replace hx135_3 := (HB.out.cell (World.block_lt_of_cell? w _ hx135_3)).trans hx135_3; replace p135 := eq_true p135; replace q135 := eq_true q135; have p136 : 0 ≤ (x3_1 : Int) := of_decide_eq_true (by first | (with_reducible assumption) | assumption); have q136 : x3_1 < (l0.length : Int) := of_decide_eq_true (by first | (with_reducible assumption) | assumption); obtain ⟨ad136, e136, hx136_0, hx136_1, hx136_2, hx136_3⟩ := at_T26 HR0.out x3_1 p136 q136; obtain rfl : ad133 = ad136 := (by injection e136); replace hx136_0 := (HB.out.cell (World.block_lt_of_cell? w _ hx136_0)).trans hx136_0; replace hx136_1 := (HB.out.cell (World.block_lt_of_cell? w _ hx136_1)).trans hx136_1; replace hx136_2 := (HB.out.cell (World.block_lt_of_cell? w _ hx136_2)).trans hx136_2; replace hx136_3 := (HB.out.cell (World.block_lt_of_cell? w _ hx136_3)).trans hx136_3; replace p136 := eq_true p136; replace q136 := eq_true q136)))
                      go_roundg k1
                      case measure => have := HK1.out; omega
                      case rel => exact ⟨(wrap64 (x3_1 + 1)), (by first | rfl | (simp; done) | (simp [*]; done)), H', ⟨by have := HK1.out; omega⟩, ⟨by repeat (first | (with_reducible first | exact HB.out | apply below_alloc | apply pw_below_drewN | apply below_drew1) | exact HB.out)⟩⟩
                  · rw [if_neg c10] at H
                    exact absurd H (by simp)
                · rw [if_neg c9] at H
                  exact absurd H (by simp)
              · rw [if_neg c7] at H
                have c7b0 : decide (0 < x3_1) = false := decide_eq_false c7
                clear c7
                have H' := Aside0.mk H
                clear H
                have p133 : 0 ≤ (x3_1 : Int) := of_decide_eq_true (by first | (with_reducible assumption) | assumption)
                have q133 : x3_1 < (l0.length : Int) := of_decide_eq_true (by first | (with_reducible assumption) | assumption)
                obtain ⟨ad133, e133, hx133_0, hx133_1, hx133_2, hx133_3⟩ := at_T26 HR0.out x3_1 p133 q133
                cases e133
                replace hx133_0 := (HB.out.cell (World.block_lt_of_cell? w _ hx133_0)).trans hx133_0
                replace hx133_1 := (HB.out.cell (World.block_lt_of_cell? w _ hx133_1)).trans hx133_1
                replace hx133_2 := (HB.out.cell (World.block_lt_of_cell? w _ hx133_2)).trans hx133_2
                replace hx133_3 := (HB.out.cell (World.block_lt_of_cell? w _ hx133_3)).trans hx133_3
                replace p133 := eq_true p133
                replace q133 := eq_true q133
                go_wp2_with (first | (go_at_call 26; (with_reducible refine (sphragisref09_RightRow.calls ((rd_T26 l0 x3_1).f0) ((rd_T26 l0 x3_1).f1) ((rd_T26 l0 x3_1).f2) ((rd_T26 l0 x3_1).f3) true _ A5.out).mono ?_); rintro e w14 ⟨rfl, hb⟩; have n0_ := Aside0.mk (below_step (by repeat (first | (with_reducible first | exact HB.out | apply below_alloc | apply pw_below_drewN | apply below_drew1) | exact HB.out)) hb); clear HB; have HB := n0_; clear n0_; (try clear hb); (try clear hb2); (try clear hk); (try clear hi)))
                repeat (go_quiet (first | (go_at_call 26; (with_reducible refine (sphragisref09_RightRow.calls ((rd_T26 l0 x3_1).f0) ((rd_T26 l0 x3_1).f1) ((rd_T26 l0 x3_1).f2) ((rd_T26 l0 x3_1).f3) true _ A5.out).mono ?_); rintro e w14 ⟨rfl, hb⟩; have n0_ := Aside0.mk (below_step (by repeat (first | (with_reducible first | exact HB.out | apply below_alloc | apply pw_below_drewN | apply below_drew1) | exact HB.out)) hb); clear HB; have HB := n0_; clear n0_; (try clear hb); (try clear hb2); (try clear hk); (try clear hi))); try go_wp2_with (first | (go_at_call 26; (with_reducible refine (sphragisref09_RightRow.calls ((rd_T26 l0 x3_1).f0) ((rd_T26 l0 x3_1).f1) ((rd_T26 l0 x3_1).f2) ((rd_T26 l0 x3_1).f3) true _ A5.out).mono ?_); rintro e w14 ⟨rfl, hb⟩; have n0_ := Aside0.mk (below_step (by repeat (first | (with_reducible first | exact HB.out | apply below_alloc | apply pw_below_drewN | apply below_drew1) | exact HB.out)) hb); clear HB; have HB := n0_; clear n0_; (try clear hb); (try clear hb2); (try clear hk); (try clear hi))))
                go_roundg k1
                case measure => have := HK1.out; omega
                case rel => exact ⟨(wrap64 (x3_1 + 1)), (by first | rfl | (simp; done) | (simp [*]; done)), H', ⟨by have := HK1.out; omega⟩, ⟨by repeat (first | (with_reducible first | exact HB.out | apply below_alloc | apply pw_below_drewN | apply below_drew1) | exact HB.out)⟩⟩
            · replace c6 := Bool.eq_false_iff.mpr c6
              subst c6
              have H1 : (some false) = some r := by rw [if_neg (show ¬ (false = true) by decide)] at H; exact H
              clear H
              have H := H1
              clear H1
              obtain rfl := Option.some.inj H
              have p133 : 0 ≤ (x3_1 : Int) := of_decide_eq_true (by first | (with_reducible assumption) | assumption)
              have q133 : x3_1 < (l0.length : Int) := of_decide_eq_true (by first | (with_reducible assumption) | assumption)
              obtain ⟨ad133, e133, hx133_0, hx133_1, hx133_2, hx133_3⟩ := at_T26 HR0.out x3_1 p133 q133
              cases e133
              replace hx133_0 := (HB.out.cell (World.block_lt_of_cell? w _ hx133_0)).trans hx133_0
              replace hx133_1 := (HB.out.cell (World.block_lt_of_cell? w _ hx133_1)).trans hx133_1
              replace hx133_2 := (HB.out.cell (World.block_lt_of_cell? w _ hx133_2)).trans hx133_2
              replace hx133_3 := (HB.out.cell (World.block_lt_of_cell? w _ hx133_3)).trans hx133_3
              replace p133 := eq_true p133
              replace q133 := eq_true q133
              go_wp2_with (first | (go_at_call 26; (with_reducible refine (sphragisref09_RightRow.calls ((rd_T26 l0 x3_1).f0) ((rd_T26 l0 x3_1).f1) ((rd_T26 l0 x3_1).f2) ((rd_T26 l0 x3_1).f3) false _ A5.out).mono ?_); rintro e w15 ⟨rfl, hb⟩; have n0_ := Aside0.mk (below_step (by repeat (first | (with_reducible first | exact HB.out | apply below_alloc | apply pw_below_drewN | apply below_drew1) | exact HB.out)) hb); clear HB; have HB := n0_; clear n0_; (try clear hb); (try clear hb2); (try clear hk); (try clear hi)))
              repeat (go_quiet (first | (go_at_call 26; (with_reducible refine (sphragisref09_RightRow.calls ((rd_T26 l0 x3_1).f0) ((rd_T26 l0 x3_1).f1) ((rd_T26 l0 x3_1).f2) ((rd_T26 l0 x3_1).f3) false _ A5.out).mono ?_); rintro e w15 ⟨rfl, hb⟩; have n0_ := Aside0.mk (below_step (by repeat (first | (with_reducible first | exact HB.out | apply below_alloc | apply pw_below_drewN | apply below_drew1) | exact HB.out)) hb); clear HB; have HB := n0_; clear n0_; (try clear hb); (try clear hb2); (try clear hk); (try clear hi))); try go_wp2_with (first | (go_at_call 26; (with_reducible refine (sphragisref09_RightRow.calls ((rd_T26 l0 x3_1).f0) ((rd_T26 l0 x3_1).f1) ((rd_T26 l0 x3_1).f2) ((rd_T26 l0 x3_1).f3) false _ A5.out).mono ?_); rintro e w15 ⟨rfl, hb⟩; have n0_ := Aside0.mk (below_step (by repeat (first | (with_reducible first | exact HB.out | apply below_alloc | apply pw_below_drewN | apply below_drew1) | exact HB.out)) hb); clear HB; have HB := n0_; clear n0_; (try clear hb); (try clear hb2); (try clear hk); (try clear hi))))
              go_ret
              exact ⟨by first | rfl | (simp [errW_none, errW_some] <;> rfl) | (simp [*, errW_none, errW_some] <;> rfl), by repeat (first | (with_reducible first | exact HB.out | apply below_alloc | apply pw_below_drewN | apply below_drew1) | exact HB.out)⟩
          · rw [if_neg c4] at H
            exact absurd H (by simp)
        · rw [if_neg c3] at H
          have c3b0 : decide (x3_1 < (l0.length : Int)) = false := decide_eq_false c3
          clear c3
          obtain rfl := Option.some.inj H
          go_wp2
          repeat (go_quiet (fail); try go_wp2)
          go_ret
          exact ⟨by first | rfl | (simp [errW_none, errW_some] <;> rfl) | (simp [*, errW_none, errW_some] <;> rfl), by repeat (first | (with_reducible first | exact HB.out | apply below_alloc | apply pw_below_drewN | apply below_drew1) | exact HB.out)⟩

/-! ### sphragisref12_Get: function 20 -/
def sphragisref12_Get.l0 : Nat → List (S26) → Int → Int → Option (Int × Int × Int × ByteArray × Int)
  | 0, _, _, _ => none
  | k + 1, x0, x1, x7 => if x7 < (x0.length : Int) then (if 0 ≤ x7 then (if ((rd_T26 x0 x7).f0) = x1 then (some ((rd_T26 x0 x7).f0, (rd_T26 x0 x7).f1, (rd_T26 x0 x7).f2, (rd_T26 x0 x7).f3, 0)) else (sphragisref12_Get.l0 k x0 x1 (wrap64 (x7 + 1)))) else (none)) else (some (0, 0, 0, (⟨#[]⟩ : ByteArray), 100))
def sphragisref12_Get.f (k : Nat) (l0 : List (S26)) (a1 : Int) : Option (Int × Int × Int × ByteArray × Int) := (sphragisref09_Right.f k l0).bind fun t138 => (if t138 = true then (sphragisref12_Get.l0 k l0 a1 0) else (some (0, 0, 0, (⟨#[]⟩ : ByteArray), 80)))
theorem sphragisref12_Get.mono_l : ∀ k, (∀ y0 y1 y2, LeO (sphragisref12_Get.l0 k y0 y1 y2) (sphragisref12_Get.l0 (k + 1) y0 y1 y2))
  | 0 => fun _ _ _ r h => by simp [sphragisref12_Get.l0] at h
  | k + 1 => by
    have ih0 := sphragisref12_Get.mono_l k
    · intro y0 y1 y2
      unfold sphragisref12_Get.l0
      repeat' first
      | (with_reducible exact ih0 _ _ _)
      | (with_reducible exact sphragisref09_Right.mono _ _)
      | (with_reducible exact LeO.refl _)
      | (with_reducible exact LeO.none _)
      | (with_reducible refine LeO.ite ?_ ?_)
      | (with_reducible refine LeO.bind ?_ (fun _ => ?_))
      | exact ih0 _ _ _
      | exact sphragisref09_Right.mono _ _
      | exact LeO.none _
      | refine LeO.ite ?_ ?_
      | refine LeO.bind ?_ (fun _ => ?_)
theorem sphragisref12_Get.mono : ∀ a0 a1 k, LeO (sphragisref12_Get.f k a0 a1) (sphragisref12_Get.f (k + 1) a0 a1) := by
  intro a0 a1 k
  have ih0 := sphragisref12_Get.mono_l k
  unfold sphragisref12_Get.f
  repeat' first
      | (with_reducible exact ih0 _ _ _)
      | (with_reducible exact sphragisref09_Right.mono _ _)
      | (with_reducible exact LeO.refl _)
      | (with_reducible exact LeO.none _)
      | (with_reducible refine LeO.ite ?_ ?_)
      | (with_reducible refine LeO.bind ?_ (fun _ => ?_))
      | exact ih0 _ _ _
      | exact sphragisref09_Right.mono _ _
      | exact LeO.none _
      | refine LeO.ite ?_ ?_
      | refine LeO.bind ?_ (fun _ => ?_)
set_option maxHeartbeats 8000000 in
set_option maxRecDepth 100000 in
theorem sphragisref12_Get.calls (k : Nat) (A0 : Option Addr) (c0 : Nat) (l0 : List (S26)) (a1 : Int) (r1 : Int) (r2 : Int) (r3 : Int) (r4 : ByteArray) (r5 : Int) (w : World) (hr0 : Kd.C k26 w A0 l0.length l0) (hc0 : l0.length ≤ c0) (h : sphragisref12_Get.f k l0 a1 = some (r1, r2, r3, r4, r5)) :
    Calls Try.prog 20 #[.slice A0 l0.length c0, .int .u64 a1] w fun e w' => e = .returned (.tuple #[.agg #[.int .u64 r1, .int .u32 r2, .int .u32 r3, .string r4], .int .i64 r5]) ∧ Below w.heap.size w w' := by
  have hu26 := Try.underlying26
  have HR0 := Aside0.mk hr0
  have HC0 := Aside0.mk hc0
  clear hr0 hc0
  have HB := Aside0.mk (Below.refl w.heap.size w)
  have H : ((sphragisref09_Right.f k l0).bind fun t138 => (if t138 = true then (sphragisref12_Get.l0 k l0 a1 0) else (some (0, 0, 0, (⟨#[]⟩ : ByteArray), 80)))) = some (r1, r2, r3, r4, r5) := h
  clear h
  replace H := Option.bind_eq_some_iff.mp H
  obtain ⟨t138, A30, H⟩ := H
  replace H : (if t138 = true then (sphragisref12_Get.l0 k l0 a1 0) else (some (0, 0, 0, (⟨#[]⟩ : ByteArray), 80))) = some (r1, r2, r3, r4, r5) := H
  have A3 := Aside0.mk A30
  clear A30
  by_cases c4 : t138 = true
  · subst c4
    have H1 : (sphragisref12_Get.l0 k l0 a1 0) = some (r1, r2, r3, r4, r5) := by rw [if_pos rfl] at H; exact H
    clear H
    have H := H1
    clear H1
    have H' := Aside0.mk H
    clear H
    go_enter Try.func20, Try.ntmps20
    go_wp2_with (first | ((with_reducible refine gate_dst (N := 4) rfl ?_); refine box_event ?hg (N := 4) ?hd (cs := #[.int .u64 0, .int .u32 0, .int .u32 0, .string (⟨#[]⟩ : ByteArray)]) (t := 26) ?hr ?_; (case hd => rfl); (case hg => rfl); (case hr => first | (go_simp; done) | (go_simp; rfl)); intro gb137 hg w5 hbox hb; have n0_ := Aside0.mk (below_step (by repeat (first | (with_reducible first | exact HB.out | apply below_alloc | apply pw_below_drewN | apply below_drew1) | exact HB.out)) hb); have n1_ := Aside0.mk (hbox); have n2_ := Aside0.mk ((by rw [hg]; exact (below_size (by repeat (first | (with_reducible first | exact HB.out | apply below_alloc | apply pw_below_drewN | apply below_drew1) | exact HB.out))) : w.heap.size ≤ gb137)); have n3_ := Aside0.mk ((by rw [hg]; exact (below_size (by repeat (first | (with_reducible first | exact HB.out | apply below_alloc | apply pw_below_drewN | apply below_drew1) | exact HB.out))) : w.heap.size ≤ gb137)); clear HB; have HB := n0_; have BK137 := n1_; have GW137 := n2_; have GE137 := n3_; clear n0_ n1_ n2_ n3_; clear hb hbox hg) | ((with_reducible refine gate_callee (f := 25) rfl ?_); refine goesL_ (some 9) rfl rfl Try.func25 (by kernel_rfl) rfl #[.slice A0 l0.length c0] rfl (by (try simp only [List.map_toArray, List.map_cons, List.map_nil]); first | done | rfl | (simp only [List.length_drop, List.length_take]; rfl)) ?_; (with_reducible refine (sphragisref09_Right.calls k _ _ l0 true _ ?side1 ?side2 A3.out).mono ?_); (case side1 => repeat (first | exact (Kd.C_below HR0.out HB.out) | (with_reducible refine Kd.C_alloc ?_ _) | (with_reducible refine Kd.C_drewN ?_ _) | (with_reducible refine Kd.C_drew ?_))); (case side2 => exact HC0.out); rintro e w6 ⟨rfl, hb⟩; refine ⟨_, rfl, ?_⟩; have n0_ := Aside0.mk (blk_below (g := gb137) (o := .cells #[.int .u64 0, .int .u32 0, .int .u32 0, .string (⟨#[]⟩ : ByteArray)] 26 (0, 0)) (by (with_reducible repeat (first | refine blk_drewN ?_ _ | refine blk_drew ?_ | refine blk_alloc ?_ _)); exact BK137.out) hb); have n1_ := Aside0.mk (below_step (by repeat (first | (with_reducible first | exact HB.out | apply below_alloc | apply pw_below_drewN | apply below_drew1 | refine below_set ?_ GE137.out) | exact HB.out)) hb); clear BK137; clear HB; have BK137 := n0_; have HB := n1_; clear n0_ n1_; (try clear hb); (try clear hb2); (try clear hk); (try clear hi)))
    go_loopg [7] k (fun kq v7 w' => ∃ (x7_1 : Int) (x138000_1 : Int) (x138001_1 : Int) (x138002_1 : Int) (x138003_1 : ByteArray), v7 = .int .i64 x7_1 ∧ Aside0 (sphragisref12_Get.l0 kq l0 a1 x7_1 = some (r1, r2, r3, r4, r5)) ∧ Aside0 (kq ≤ k) ∧ Aside0 (w'.heap[gb137]? = some (.cells #[.int .u64 x138000_1, .int .u32 x138001_1, .int .u32 x138002_1, .string x138003_1] 26 (0, 0))) ∧ Aside0 (Below w.heap.size w w'))
    case atStart => exact ⟨(0), (0), (0), (0), ((⟨#[]⟩ : ByteArray)), (by first | rfl | (simp; done) | (simp [*]; done)), H', ⟨Nat.le_refl _⟩, ⟨by (with_reducible repeat (first | refine blk_drewN ?_ _ | refine blk_drew ?_ | refine blk_alloc ?_ _)); exact BK137.out⟩, ⟨by repeat (first | (with_reducible first | exact HB.out | apply below_alloc | apply pw_below_drewN | apply below_drew1 | refine below_set ?_ GE137.out) | exact HB.out)⟩⟩
    case round =>
      clear H'
      try clear c2
      try clear p2
      try clear c4
      obtain ⟨x7_1, x138000_1, x138001_1, x138002_1, x138003_1, rfl, HA, HK1, BK137, HB⟩ := hrel
      cases gk with
      | zero => exact absurd HA.out (by simp [sphragisref12_Get.l0])
      | succ k1 =>
        have H := HA.out
        clear HA
        simp only [sphragisref12_Get.l0] at H
        by_cases c7 : x7_1 < (l0.length : Int)
        · rw [if_pos c7] at H
          have c7b0 : decide (x7_1 < (l0.length : Int)) = true := decide_eq_true c7
          clear c7
          by_cases c8 : 0 ≤ x7_1
          · rw [if_pos c8] at H
            have c8b0 : decide (0 ≤ x7_1) = true := decide_eq_true c8
            clear c8
            by_cases c9 : ((rd_T26 l0 x7_1).f0) = a1
            · rw [if_pos c9] at H
              have c9b0 : (((rd_T26 l0 x7_1).f0) == a1) = true := beq_iff_eq.mpr c9
              have c9b1 : (((rd_T26 l0 x7_1).f0) != a1) = false := bne_eq_false_iff_eq.mpr c9
              clear c9
              simp only [Option.some.injEq, Prod.mk.injEq] at H
              obtain ⟨rfl, rfl, rfl, rfl, rfl⟩ := H
              have p139 : 0 ≤ (x7_1 : Int) := of_decide_eq_true (by first | (with_reducible assumption) | assumption)
              have q139 : x7_1 < (l0.length : Int) := of_decide_eq_true (by first | (with_reducible assumption) | assumption)
              obtain ⟨ad139, e139, hx139_0, hx139_1, hx139_2, hx139_3⟩ := at_T26 HR0.out x7_1 p139 q139
              cases e139
              replace hx139_0 := (HB.out.cell (World.block_lt_of_cell? w _ hx139_0)).trans hx139_0
              replace hx139_1 := (HB.out.cell (World.block_lt_of_cell? w _ hx139_1)).trans hx139_1
              replace hx139_2 := (HB.out.cell (World.block_lt_of_cell? w _ hx139_2)).trans hx139_2
              replace hx139_3 := (HB.out.cell (World.block_lt_of_cell? w _ hx139_3)).trans hx139_3
              replace p139 := eq_true p139
              replace q139 := eq_true q139
              have p140 : 0 ≤ (x7_1 : Int) := of_decide_eq_true (by first | (with_reducible assumption) | assumption)
              have q140 : x7_1 < (l0.length : Int) := of_decide_eq_true (by first | (with_reducible assumption) | assumption)
              obtain ⟨ad140, e140, hx140_0, hx140_1, hx140_2, hx140_3⟩ := at_T26 HR0.out x7_1 p140 q140
              obtain rfl : ad139 = ad140 := (by injection e140)
              replace hx140_0 := (HB.out.cell (World.block_lt_of_cell? w _ hx140_0)).trans hx140_0
              replace hx140_1 := (HB.out.cell (World.block_lt_of_cell? w _ hx140_1)).trans hx140_1
              replace hx140_2 := (HB.out.cell (World.block_lt_of_cell? w _ hx140_2)).trans hx140_2
              replace hx140_3 := (HB.out.cell (World.block_lt_of_cell? w _ hx140_3)).trans hx140_3
              replace p140 := eq_true p140
              replace q140 := eq_true q140
              have hcz10_0 : wr.cell? ⟨gb137, 0, none⟩ = some (.int .u64 x138000_1) := (blk_cell BK137.out 0).trans rfl
              have hcz10_1 : wr.cell? ⟨gb137, 1, none⟩ = some (.int .u32 x138001_1) := (blk_cell BK137.out 1).trans rfl
              have hcz10_2 : wr.cell? ⟨gb137, 2, none⟩ = some (.int .u32 x138002_1) := (blk_cell BK137.out 2).trans rfl
              have hcz10_3 : wr.cell? ⟨gb137, 3, none⟩ = some (.string x138003_1) := (blk_cell BK137.out 3).trans rfl
              have hfz10_0 := blk_frozen BK137.out 0
              have hfz10_1 := blk_frozen BK137.out 1
              have hfz10_2 := blk_frozen BK137.out 2
              have hfz10_3 := blk_frozen BK137.out 3
              go_wp2
              refine bodyPost_ret (results_ct rfl _ _ gb137 26 #[.int .u64 ((rd_T26 l0 x7_1).f0), .int .u32 ((rd_T26 l0 x7_1).f1), .int .u32 ((rd_T26 l0 x7_1).f2), .string ((rd_T26 l0 x7_1).f3)] (0, 0) _ rfl (by (with_reducible repeat (first | refine blk_drewN ?_ _ | refine blk_drew ?_ | refine blk_alloc ?_ _)); refine blk_put (cs := #[.int .u64 ((rd_T26 l0 x7_1).f0), .int .u32 ((rd_T26 l0 x7_1).f1), .int .u32 ((rd_T26 l0 x7_1).f2), .string x138003_1]) ?_ 3 _ (by first | rfl | (simp; done)); (with_reducible repeat (first | refine blk_drewN ?_ _ | refine blk_drew ?_ | refine blk_alloc ?_ _)); refine blk_put (cs := #[.int .u64 ((rd_T26 l0 x7_1).f0), .int .u32 ((rd_T26 l0 x7_1).f1), .int .u32 x138002_1, .string x138003_1]) ?_ 2 _ (by first | rfl | (simp; done)); (with_reducible repeat (first | refine blk_drewN ?_ _ | refine blk_drew ?_ | refine blk_alloc ?_ _)); refine blk_put (cs := #[.int .u64 ((rd_T26 l0 x7_1).f0), .int .u32 x138001_1, .int .u32 x138002_1, .string x138003_1]) ?_ 1 _ (by first | rfl | (simp; done)); (with_reducible repeat (first | refine blk_drewN ?_ _ | refine blk_drew ?_ | refine blk_alloc ?_ _)); refine blk_put (cs := #[.int .u64 x138000_1, .int .u32 x138001_1, .int .u32 x138002_1, .string x138003_1]) ?_ 0 _ (by first | rfl | (simp; done)); (with_reducible repeat (first | refine blk_drewN ?_ _ | refine blk_drew ?_ | refine blk_alloc ?_ _)); exact BK137.out) Try.underlying26 rfl (by kernel_rfl)) rfl ?_
              exact ⟨by first | rfl | (simp [errW_none, errW_some] <;> rfl) | (simp [*, errW_none, errW_some] <;> rfl), by repeat (first | (with_reducible first | exact HB.out | apply below_alloc | apply pw_below_drewN | apply below_drew1 | refine below_set ?_ GE137.out) | exact HB.out)⟩
            · rw [if_neg c9] at H
              have c9b0 : (((rd_T26 l0 x7_1).f0) == a1) = false := beq_eq_false_iff_ne.mpr c9
              have c9b1 : (((rd_T26 l0 x7_1).f0) != a1) = true := bne_iff_ne.mpr c9
              have H' := Aside0.mk H
              clear H
              have p139 : 0 ≤ (x7_1 : Int) := of_decide_eq_true (by first | (with_reducible assumption) | assumption)
              have q139 : x7_1 < (l0.length : Int) := of_decide_eq_true (by first | (with_reducible assumption) | assumption)
              obtain ⟨ad139, e139, hx139_0, hx139_1, hx139_2, hx139_3⟩ := at_T26 HR0.out x7_1 p139 q139
              cases e139
              replace hx139_0 := (HB.out.cell (World.block_lt_of_cell? w _ hx139_0)).trans hx139_0
              replace hx139_1 := (HB.out.cell (World.block_lt_of_cell? w _ hx139_1)).trans hx139_1
              replace hx139_2 := (HB.out.cell (World.block_lt_of_cell? w _ hx139_2)).trans hx139_2
              replace hx139_3 := (HB.out.cell (World.block_lt_of_cell? w _ hx139_3)).trans hx139_3
              replace p139 := eq_true p139
              replace q139 := eq_true q139
              go_wp2
              go_roundg k1
              case measure => have := HK1.out; omega
              case rel => exact ⟨(wrap64 (x7_1 + 1)), (x138000_1), (x138001_1), (x138002_1), (x138003_1), (by first | rfl | (simp; done) | (simp [*]; done)), H', ⟨by have := HK1.out; omega⟩, ⟨by (with_reducible repeat (first | refine blk_drewN ?_ _ | refine blk_drew ?_ | refine blk_alloc ?_ _)); exact BK137.out⟩, ⟨by repeat (first | (with_reducible first | exact HB.out | apply below_alloc | apply pw_below_drewN | apply below_drew1 | refine below_set ?_ GE137.out) | exact HB.out)⟩⟩
          · rw [if_neg c8] at H
            exact absurd H (by simp)
        · rw [if_neg c7] at H
          have c7b0 : decide (x7_1 < (l0.length : Int)) = false := decide_eq_false c7
          clear c7
          simp only [Option.some.injEq, Prod.mk.injEq] at H
          obtain ⟨rfl, rfl, rfl, rfl, rfl⟩ := H
          have hcz11_0 : wr.cell? ⟨gb137, 0, none⟩ = some (.int .u64 x138000_1) := (blk_cell BK137.out 0).trans rfl
          have hcz11_1 : wr.cell? ⟨gb137, 1, none⟩ = some (.int .u32 x138001_1) := (blk_cell BK137.out 1).trans rfl
          have hcz11_2 : wr.cell? ⟨gb137, 2, none⟩ = some (.int .u32 x138002_1) := (blk_cell BK137.out 2).trans rfl
          have hcz11_3 : wr.cell? ⟨gb137, 3, none⟩ = some (.string x138003_1) := (blk_cell BK137.out 3).trans rfl
          have hfz11_0 := blk_frozen BK137.out 0
          have hfz11_1 := blk_frozen BK137.out 1
          have hfz11_2 := blk_frozen BK137.out 2
          have hfz11_3 := blk_frozen BK137.out 3
          go_wp2
          refine bodyPost_ret (results_ct rfl _ _ gb137 26 #[.int .u64 0, .int .u32 0, .int .u32 0, .string (⟨#[]⟩ : ByteArray)] (0, 0) _ rfl (by (with_reducible repeat (first | refine blk_drewN ?_ _ | refine blk_drew ?_ | refine blk_alloc ?_ _)); refine blk_put (cs := #[.int .u64 0, .int .u32 0, .int .u32 0, .string x138003_1]) ?_ 3 _ (by first | rfl | (simp; done)); (with_reducible repeat (first | refine blk_drewN ?_ _ | refine blk_drew ?_ | refine blk_alloc ?_ _)); refine blk_put (cs := #[.int .u64 0, .int .u32 0, .int .u32 x138002_1, .string x138003_1]) ?_ 2 _ (by first | rfl | (simp; done)); (with_reducible repeat (first | refine blk_drewN ?_ _ | refine blk_drew ?_ | refine blk_alloc ?_ _)); refine blk_put (cs := #[.int .u64 0, .int .u32 x138001_1, .int .u32 x138002_1, .string x138003_1]) ?_ 1 _ (by first | rfl | (simp; done)); (with_reducible repeat (first | refine blk_drewN ?_ _ | refine blk_drew ?_ | refine blk_alloc ?_ _)); refine blk_put (cs := #[.int .u64 x138000_1, .int .u32 x138001_1, .int .u32 x138002_1, .string x138003_1]) ?_ 0 _ (by first | rfl | (simp; done)); (with_reducible repeat (first | refine blk_drewN ?_ _ | refine blk_drew ?_ | refine blk_alloc ?_ _)); exact BK137.out) Try.underlying26 rfl (by kernel_rfl)) rfl ?_
          exact ⟨by first | rfl | (simp [errW_none, errW_some] <;> rfl) | (simp [*, errW_none, errW_some] <;> rfl), by repeat (first | (with_reducible first | exact HB.out | apply below_alloc | apply pw_below_drewN | apply below_drew1 | refine below_set ?_ GE137.out) | exact HB.out)⟩
  · replace c4 := Bool.eq_false_iff.mpr c4
    subst c4
    have H1 : (some (0, 0, 0, (⟨#[]⟩ : ByteArray), 80)) = some (r1, r2, r3, r4, r5) := by rw [if_neg (show ¬ (false = true) by decide)] at H; exact H
    clear H
    have H := H1
    clear H1
    simp only [Option.some.injEq, Prod.mk.injEq] at H
    obtain ⟨rfl, rfl, rfl, rfl, rfl⟩ := H
    go_enter Try.func20, Try.ntmps20
    go_wp2_with (first | ((with_reducible refine gate_dst (N := 4) rfl ?_); refine box_event ?hg (N := 4) ?hd (cs := #[.int .u64 0, .int .u32 0, .int .u32 0, .string (⟨#[]⟩ : ByteArray)]) (t := 26) ?hr ?_; (case hd => rfl); (case hg => rfl); (case hr => first | (go_simp; done) | (go_simp; rfl)); intro gb137 hg w12 hbox hb; have n0_ := Aside0.mk (below_step (by repeat (first | (with_reducible first | exact HB.out | apply below_alloc | apply pw_below_drewN | apply below_drew1) | exact HB.out)) hb); have n1_ := Aside0.mk (hbox); have n2_ := Aside0.mk ((by rw [hg]; exact (below_size (by repeat (first | (with_reducible first | exact HB.out | apply below_alloc | apply pw_below_drewN | apply below_drew1) | exact HB.out))) : w.heap.size ≤ gb137)); have n3_ := Aside0.mk ((by rw [hg]; exact (below_size (by repeat (first | (with_reducible first | exact HB.out | apply below_alloc | apply pw_below_drewN | apply below_drew1) | exact HB.out))) : w.heap.size ≤ gb137)); clear HB; have HB := n0_; have BK137 := n1_; have GW137 := n2_; have GE137 := n3_; clear n0_ n1_ n2_ n3_; clear hb hbox hg) | ((with_reducible refine gate_callee (f := 25) rfl ?_); refine goesL_ (some 9) rfl rfl Try.func25 (by kernel_rfl) rfl #[.slice A0 l0.length c0] rfl (by (try simp only [List.map_toArray, List.map_cons, List.map_nil]); first | done | rfl | (simp only [List.length_drop, List.length_take]; rfl)) ?_; (with_reducible refine (sphragisref09_Right.calls k _ _ l0 false _ ?side1 ?side2 A3.out).mono ?_); (case side1 => repeat (first | exact (Kd.C_below HR0.out HB.out) | (with_reducible refine Kd.C_alloc ?_ _) | (with_reducible refine Kd.C_drewN ?_ _) | (with_reducible refine Kd.C_drew ?_))); (case side2 => exact HC0.out); rintro e w13 ⟨rfl, hb⟩; refine ⟨_, rfl, ?_⟩; have n0_ := Aside0.mk (blk_below (g := gb137) (o := .cells #[.int .u64 0, .int .u32 0, .int .u32 0, .string (⟨#[]⟩ : ByteArray)] 26 (0, 0)) (by (with_reducible repeat (first | refine blk_drewN ?_ _ | refine blk_drew ?_ | refine blk_alloc ?_ _)); exact BK137.out) hb); have n1_ := Aside0.mk (below_step (by repeat (first | (with_reducible first | exact HB.out | apply below_alloc | apply pw_below_drewN | apply below_drew1 | refine below_set ?_ GE137.out) | exact HB.out)) hb); clear BK137; clear HB; have BK137 := n0_; have HB := n1_; clear n0_ n1_; (try clear hb); (try clear hb2); (try clear hk); (try clear hi); have hcz14_0 : w13.cell? ⟨gb137, 0, none⟩ = some (.int .u64 0) := (blk_cell BK137.out 0).trans rfl; have hcz14_1 : w13.cell? ⟨gb137, 1, none⟩ = some (.int .u32 0) := (blk_cell BK137.out 1).trans rfl; have hcz14_2 : w13.cell? ⟨gb137, 2, none⟩ = some (.int .u32 0) := (blk_cell BK137.out 2).trans rfl; have hcz14_3 : w13.cell? ⟨gb137, 3, none⟩ = some (.string (⟨#[]⟩ : ByteArray)) := (blk_cell BK137.out 3).trans rfl; have hfz14_0 := blk_frozen BK137.out 0; have hfz14_1 := blk_frozen BK137.out 1; have hfz14_2 := blk_frozen BK137.out 2; have hfz14_3 := blk_frozen BK137.out 3))
    refine bodyPost_ret (results_ct rfl _ _ gb137 26 #[.int .u64 0, .int .u32 0, .int .u32 0, .string (⟨#[]⟩ : ByteArray)] (0, 0) _ rfl (by (with_reducible repeat (first | refine blk_drewN ?_ _ | refine blk_drew ?_ | refine blk_alloc ?_ _)); refine blk_put (cs := #[.int .u64 0, .int .u32 0, .int .u32 0, .string (⟨#[]⟩ : ByteArray)]) ?_ 3 _ (by first | rfl | (simp; done)); (with_reducible repeat (first | refine blk_drewN ?_ _ | refine blk_drew ?_ | refine blk_alloc ?_ _)); refine blk_put (cs := #[.int .u64 0, .int .u32 0, .int .u32 0, .string (⟨#[]⟩ : ByteArray)]) ?_ 2 _ (by first | rfl | (simp; done)); (with_reducible repeat (first | refine blk_drewN ?_ _ | refine blk_drew ?_ | refine blk_alloc ?_ _)); refine blk_put (cs := #[.int .u64 0, .int .u32 0, .int .u32 0, .string (⟨#[]⟩ : ByteArray)]) ?_ 1 _ (by first | rfl | (simp; done)); (with_reducible repeat (first | refine blk_drewN ?_ _ | refine blk_drew ?_ | refine blk_alloc ?_ _)); refine blk_put (cs := #[.int .u64 0, .int .u32 0, .int .u32 0, .string (⟨#[]⟩ : ByteArray)]) ?_ 0 _ (by first | rfl | (simp; done)); (with_reducible repeat (first | refine blk_drewN ?_ _ | refine blk_drew ?_ | refine blk_alloc ?_ _)); exact BK137.out) Try.underlying26 rfl (by kernel_rfl)) rfl ?_
    exact ⟨by first | rfl | (simp [errW_none, errW_some] <;> rfl) | (simp [*, errW_none, errW_some] <;> rfl), by repeat (first | (with_reducible first | exact HB.out | apply below_alloc | apply pw_below_drewN | apply below_drew1 | refine below_set ?_ GE137.out) | exact HB.out)⟩

/-! ### sphragisref12_with: function 27 -/
mutual
def sphragisref12_with.l0 : Nat → List (S26) → Int → List (S26) → Bool → Int → Int → Int → Int → ByteArray → Option ((List (S26)))
  | 0, _, _, _, _, _, _, _, _, _ => none
  | k + 1, x0, x1, x9, x10, x11, x142000, x142001, x142002, x142003 => if x11 < (x0.length : Int) then (if x10 = true then (sphragisref12_with.j1 k x0 x1 x9 x10 x11 false x142000 x142001 x142002 x142003) else (if 0 ≤ x11 then (sphragisref12_with.j1 k x0 x1 x9 x10 x11 (decide (((rd_T26 x0 x11).f0) ≥ x1)) x142000 x142001 x142002 x142003) else (none))) else (if x10 = true then (some x9) else (if x9.length < 4398046511104 then (some (x9 ++ [(⟨x142000, x142001, x142002, x142003⟩ : S26)])) else (none)))
def sphragisref12_with.j1 : Nat → List (S26) → Int → List (S26) → Bool → Int → Bool → Int → Int → Int → ByteArray → Option ((List (S26)))
  | 0, _, _, _, _, _, _, _, _, _, _ => none
  | k + 1, x0, x1, x9, x10, x11, x30, x142000, x142001, x142002, x142003 => if x30 = true then (if x9.length < 4398046511104 then ((some (x9 ++ [(⟨x142000, x142001, x142002, x142003⟩ : S26)] : List (S26))).bind fun y146 => (if 0 ≤ x11 then (if x11 < (x0.length : Int) then (if ((rd_T26 x0 x11).f0) = x1 then (sphragisref12_with.l0 k x0 x1 y146 true (wrap64 (x11 + 1)) x142000 x142001 x142002 x142003) else (if y146.length < 4398046511104 then (sphragisref12_with.l0 k x0 x1 (y146 ++ [(⟨(rd_T26 x0 x11).f0, (rd_T26 x0 x11).f1, (rd_T26 x0 x11).f2, (rd_T26 x0 x11).f3⟩ : S26)]) true (wrap64 (x11 + 1)) x142000 x142001 x142002 x142003) else (none))) else (none)) else (none))) else (none)) else (if 0 ≤ x11 then (if x11 < (x0.length : Int) then (if ((rd_T26 x0 x11).f0) = x1 then (sphragisref12_with.l0 k x0 x1 x9 x10 (wrap64 (x11 + 1)) x142000 x142001 x142002 x142003) else (if x9.length < 4398046511104 then (sphragisref12_with.l0 k x0 x1 (x9 ++ [(⟨(rd_T26 x0 x11).f0, (rd_T26 x0 x11).f1, (rd_T26 x0 x11).f2, (rd_T26 x0 x11).f3⟩ : S26)]) x10 (wrap64 (x11 + 1)) x142000 x142001 x142002 x142003) else (none))) else (none)) else (none))
end
def sphragisref12_with.f (k : Nat) (l0 : List (S26)) (a1 : Int) (a2_0 : Int) (a2_1 : Int) (a2_2 : Int) (a2_3 : ByteArray) (a3 : Bool) : Option ((List (S26))) := sphragisref12_with.l0 k l0 a1 ([] : List (S26)) (!a3) 0 a2_0 a2_1 a2_2 a2_3
theorem sphragisref12_with.mono_l : ∀ k, (∀ y0 y1 y2 y3 y4 y5 y6 y7 y8, LeO (sphragisref12_with.l0 k y0 y1 y2 y3 y4 y5 y6 y7 y8) (sphragisref12_with.l0 (k + 1) y0 y1 y2 y3 y4 y5 y6 y7 y8)) ∧ (∀ y0 y1 y2 y3 y4 y5 y6 y7 y8 y9, LeO (sphragisref12_with.j1 k y0 y1 y2 y3 y4 y5 y6 y7 y8 y9) (sphragisref12_with.j1 (k + 1) y0 y1 y2 y3 y4 y5 y6 y7 y8 y9))
  | 0 => ⟨fun _ _ _ _ _ _ _ _ _ r h => by simp [sphragisref12_with.l0] at h, fun _ _ _ _ _ _ _ _ _ _ r h => by simp [sphragisref12_with.j1] at h⟩
  | k + 1 => by
    obtain ⟨ih0, ih1⟩ := sphragisref12_with.mono_l k
    refine ⟨?_, ?_⟩
    · intro y0 y1 y2 y3 y4 y5 y6 y7 y8
      unfold sphragisref12_with.l0
      repeat' first
      | (with_reducible exact ih0 _ _ _ _ _ _ _ _ _)
      | (with_reducible exact ih1 _ _ _ _ _ _ _ _ _ _)
      | (with_reducible exact LeO.refl _)
      | (with_reducible exact LeO.none _)
      | (with_reducible refine LeO.ite ?_ ?_)
      | (with_reducible refine LeO.bind ?_ (fun _ => ?_))
      | exact ih0 _ _ _ _ _ _ _ _ _
      | exact ih1 _ _ _ _ _ _ _ _ _ _
      | exact LeO.none _
      | refine LeO.ite ?_ ?_
      | refine LeO.bind ?_ (fun _ => ?_)
    · intro y0 y1 y2 y3 y4 y5 y6 y7 y8 y9
      unfold sphragisref12_with.j1
      repeat' first
      | (with_reducible exact ih0 _ _ _ _ _ _ _ _ _)
      | (with_reducible exact ih1 _ _ _ _ _ _ _ _ _ _)
      | (with_reducible exact LeO.refl _)
      | (with_reducible exact LeO.none _)
      | (with_reducible refine LeO.ite ?_ ?_)
      | (with_reducible refine LeO.bind ?_ (fun _ => ?_))
      | exact ih0 _ _ _ _ _ _ _ _ _
      | exact ih1 _ _ _ _ _ _ _ _ _ _
      | exact LeO.none _
      | refine LeO.ite ?_ ?_
      | refine LeO.bind ?_ (fun _ => ?_)
theorem sphragisref12_with.mono : ∀ a0 a1 a2 a3 a4 a5 a6 k, LeO (sphragisref12_with.f k a0 a1 a2 a3 a4 a5 a6) (sphragisref12_with.f (k + 1) a0 a1 a2 a3 a4 a5 a6) := by
  intro a0 a1 a2 a3 a4 a5 a6 k
  obtain ⟨ih0, ih1⟩ := sphragisref12_with.mono_l k
  unfold sphragisref12_with.f
  repeat' first
      | (with_reducible exact ih0 _ _ _ _ _ _ _ _ _)
      | (with_reducible exact ih1 _ _ _ _ _ _ _ _ _ _)
      | (with_reducible exact LeO.refl _)
      | (with_reducible exact LeO.none _)
      | (with_reducible refine LeO.ite ?_ ?_)
      | (with_reducible refine LeO.bind ?_ (fun _ => ?_))
      | exact ih0 _ _ _ _ _ _ _ _ _
      | exact ih1 _ _ _ _ _ _ _ _ _ _
      | exact LeO.none _
      | refine LeO.ite ?_ ?_
      | refine LeO.bind ?_ (fun _ => ?_)
set_option maxHeartbeats 8000000 in
set_option maxRecDepth 100000 in
theorem sphragisref12_with.calls (k : Nat) (A0 : Option Addr) (c0 : Nat) (l0 : List (S26)) (a1 : Int) (a2_0 : Int) (a2_1 : Int) (a2_2 : Int) (a2_3 : ByteArray) (a3 : Bool) (r : List (S26)) (w : World) (hr0 : Kd.C k26 w A0 l0.length l0) (hc0 : l0.length ≤ c0) (h : sphragisref12_with.f k l0 a1 a2_0 a2_1 a2_2 a2_3 a3 = some r) :
    Calls Try.prog 27 #[.slice A0 l0.length c0, .int .u64 a1, .agg #[.int .u64 a2_0, .int .u32 a2_1, .int .u32 a2_2, .string a2_3], .bool a3] w fun e w' => ∃ v0_ : Value, e = .returned (v0_) ∧ Kd.R k26 26 w' w.heap.size (fun _ => True) v0_ r ∧ Below w.heap.size w w' := by
  have hu26 := Try.underlying26
  have HR0 := Aside0.mk hr0
  have HC0 := Aside0.mk hc0
  clear hr0 hc0
  have HB := Aside0.mk (Below.refl w.heap.size w)
  have H : (sphragisref12_with.l0 k l0 a1 ([] : List (S26)) (!a3) 0 a2_0 a2_1 a2_2 a2_3) = some r := h
  clear h
  have H' := Aside0.mk H
  clear H
  go_enter Try.func27, Try.ntmps27
  go_wp2_with (first | ((with_reducible refine gate_dst (N := 6) rfl ?_); refine box_event ?hg (N := 6) ?hd (cs := #[.int .u64 a2_0, .int .u32 a2_1, .int .u32 a2_2, .string a2_3]) (t := 26) ?hr ?_; (case hd => rfl); (case hg => rfl); (case hr => first | (go_simp; done) | (go_simp; rfl)); intro gb141 hg w5 hbox hb; have n0_ := Aside0.mk (below_step (by repeat (first | (with_reducible first | exact HB.out | apply below_alloc | apply pw_below_drewN | apply below_drew1) | exact HB.out)) hb); have n1_ := Aside0.mk (hbox); have n2_ := Aside0.mk ((by rw [hg]; exact (below_size (by repeat (first | (with_reducible first | exact HB.out | apply below_alloc | apply pw_below_drewN | apply below_drew1) | exact HB.out))) : w.heap.size ≤ gb141)); have n3_ := Aside0.mk ((by rw [hg]; exact (below_size (by repeat (first | (with_reducible first | exact HB.out | apply below_alloc | apply pw_below_drewN | apply below_drew1) | exact HB.out))) : w.heap.size ≤ gb141)); clear HB; have HB := n0_; have BK141 := n1_; have GW141 := n2_; have GE141 := n3_; clear n0_ n1_ n2_ n3_; clear hb hbox hg))
  go_loopg [9, 10, 11] k (fun kq v9 v10 v11 w' => ∃ (x9_1 : List (S26)) (x10_1 : Bool) (x11_1 : Int), v10 = .bool x10_1 ∧ v11 = .int .i64 x11_1 ∧ Aside0 (sphragisref12_with.l0 kq l0 a1 x9_1 x10_1 x11_1 a2_0 a2_1 a2_2 a2_3 = some r) ∧ Aside0 (kq ≤ k) ∧ Aside0 (Kd.R k26 26 w' w.heap.size (fun k_ => k_ ≠ gb141) v9 x9_1) ∧ Aside0 (w'.heap[gb141]? = some (.cells #[.int .u64 a2_0, .int .u32 a2_1, .int .u32 a2_2, .string a2_3] 26 (0, 0))) ∧ Aside0 (Below w.heap.size w w'))
  case atStart => exact ⟨(([] : List (S26))), (!a3), (0), (by first | rfl | (simp; done) | (simp [*]; done)), (by first | rfl | (simp; done) | (simp [*]; done)), H', ⟨Nat.le_refl _⟩, ⟨by first | exact Kd.R_nil _ _ _ _ _ | exact Kd.N_nil _ _ _ _ _ | exact Kd.V_nil _ _ _ _ _ | exact Kd.Q_nil _ _ _ _ _ | exact Kd.S_nil _ _ _ _ _⟩, ⟨by (with_reducible repeat (first | refine blk_drewN ?_ _ | refine blk_drew ?_ | refine blk_alloc ?_ _)); exact BK141.out⟩, ⟨by repeat (first | (with_reducible first | exact HB.out | apply below_alloc | apply pw_below_drewN | apply below_drew1 | refine below_set ?_ GE141.out) | exact HB.out)⟩⟩
  case round =>
    clear H'
    try clear c2
    try clear p2
    obtain ⟨x9_1, x10_1, x11_1, rfl, rfl, HA, HK1, HO_9, BK141, HB⟩ := hrel
    cases gk with
    | zero => exact absurd HA.out (by simp [sphragisref12_with.l0])
    | succ k1 =>
      have H := HA.out
      clear HA
      simp only [sphragisref12_with.l0] at H
      by_cases c6 : x11_1 < (l0.length : Int)
      · rw [if_pos c6] at H
        have c6b0 : decide (x11_1 < (l0.length : Int)) = true := decide_eq_true c6
        clear c6
        have HC7 := Aside0.mk H
        clear H
        go_upto_region 6 with (fail)
        go_cut [30] (fun v30 wc => ∃ (kq : Nat) (x30_6 : Bool), v30 = .bool x30_6 ∧ Aside0 (sphragisref12_with.j1 kq l0 a1 x9_1 x10_1 x11_1 x30_6 a2_0 a2_1 a2_2 a2_3 = some r) ∧ Aside0 (kq ≤ k1) ∧ Aside0 (Kd.R k26 26 wc w.heap.size (fun k_ => k_ ≠ gb141) u9 x9_1) ∧ Aside0 (wc.heap[gb141]? = some (.cells #[.int .u64 a2_0, .int .u32 a2_1, .int .u32 a2_2, .string a2_3] 26 (0, 0))) ∧ Aside0 (Below w.heap.size w wc))
        case first =>
          have H := HC7.out
          clear HC7
          by_cases c8 : x10_1 = true
          · subst c8
            have H1 : (sphragisref12_with.j1 k1 l0 a1 x9_1 true x11_1 false a2_0 a2_1 a2_2 a2_3) = some r := by rw [if_pos rfl] at H; exact H
            clear H
            have H := H1
            clear H1
            have H' := Aside0.mk H
            clear H
            go_wp2
            go_meet
            case rel => exact ⟨_, (false), (by first | rfl | (simp; done) | (simp [*]; done)), H', ⟨by have := HK1.out; first | omega | exact Nat.le_refl _⟩, ⟨by (with_reducible repeat (first | apply Kd.R_alloc | apply Kd.R_drewN | apply Kd.R_drew)); exact HO_9.out⟩, ⟨by (with_reducible repeat (first | refine blk_drewN ?_ _ | refine blk_drew ?_ | refine blk_alloc ?_ _)); exact BK141.out⟩, ⟨by repeat (first | (with_reducible first | exact HB.out | apply below_alloc | apply pw_below_drewN | apply below_drew1 | refine below_set ?_ GE141.out) | exact HB.out)⟩⟩
          · replace c8 := Bool.eq_false_iff.mpr c8
            subst c8
            have H1 : (if 0 ≤ x11_1 then (sphragisref12_with.j1 k1 l0 a1 x9_1 false x11_1 (decide (((rd_T26 l0 x11_1).f0) ≥ a1)) a2_0 a2_1 a2_2 a2_3) else (none)) = some r := by rw [if_neg (show ¬ (false = true) by decide)] at H; exact H
            clear H
            have H := H1
            clear H1
            by_cases c9 : 0 ≤ x11_1
            · rw [if_pos c9] at H
              have c9b0 : decide (0 ≤ x11_1) = true := decide_eq_true c9
              clear c9
              (first | rw [c9b0] | (simp only [i64_w, i32_w]; rw [c9b0]) | skip)
              have H' := Aside0.mk H
              clear H
              have p145 : 0 ≤ (x11_1 : Int) := of_decide_eq_true (by first | (with_reducible assumption) | assumption)
              have q145 : x11_1 < (l0.length : Int) := of_decide_eq_true (by first | (with_reducible assumption) | assumption)
              obtain ⟨ad145, e145, hx145_0, hx145_1, hx145_2, hx145_3⟩ := at_T26 HR0.out x11_1 p145 q145
              cases e145
              replace hx145_0 := (HB.out.cell (World.block_lt_of_cell? w _ hx145_0)).trans hx145_0
              replace hx145_1 := (HB.out.cell (World.block_lt_of_cell? w _ hx145_1)).trans hx145_1
              replace hx145_2 := (HB.out.cell (World.block_lt_of_cell? w _ hx145_2)).trans hx145_2
              replace hx145_3 := (HB.out.cell (World.block_lt_of_cell? w _ hx145_3)).trans hx145_3
              replace p145 := eq_true p145
              replace q145 := eq_true q145
              go_wp2
              go_meet
              case rel => exact ⟨_, (decide (((rd_T26 l0 x11_1).f0) ≥ a1)), (by first | rfl | (simp; done) | (simp [*]; done)), H', ⟨by have := HK1.out; first | omega | exact Nat.le_refl _⟩, ⟨by (with_reducible repeat (first | apply Kd.R_alloc | apply Kd.R_drewN | apply Kd.R_drew)); exact HO_9.out⟩, ⟨by (with_reducible repeat (first | refine blk_drewN ?_ _ | refine blk_drew ?_ | refine blk_alloc ?_ _)); exact BK141.out⟩, ⟨by repeat (first | (with_reducible first | exact HB.out | apply below_alloc | apply pw_below_drewN | apply below_drew1 | refine below_set ?_ GE141.out) | exact HB.out)⟩⟩
            · rw [if_neg c9] at H
              exact absurd H (by simp)
        case rest =>
          clear HC7
          try clear p1
          try clear q1
          try clear hx1
          try clear c2
          try clear p2
          try clear c6
          try clear c6b0
          try clear c8
          try clear c9
          try clear c9b0
          try clear hx145_0
          try clear hx145_1
          try clear hx145_2
          try clear hx145_3
          try clear p145
          try clear p2
          try clear q145
          obtain ⟨kq, x30_6, rfl, HA, HJ6, HO_9, BK141, HB⟩ := hcut
          cases kq with
          | zero => exact absurd HA.out (by simp [sphragisref12_with.j1])
          | succ kj6 =>
            have H := HA.out
            clear HA
            simp only [sphragisref12_with.j1] at H
            by_cases c10 : x30_6 = true
            · subst c10
              have H1 : (if x9_1.length < 4398046511104 then ((some (x9_1 ++ [(⟨a2_0, a2_1, a2_2, a2_3⟩ : S26)] : List (S26))).bind fun y146 => (if 0 ≤ x11_1 then (if x11_1 < (l0.length : Int) then (if ((rd_T26 l0 x11_1).f0) = a1 then (sphragisref12_with.l0 kj6 l0 a1 y146 true (wrap64 (x11_1 + 1)) a2_0 a2_1 a2_2 a2_3) else (if y146.length < 4398046511104 then (sphragisref12_with.l0 kj6 l0 a1 (y146 ++ [(⟨(rd_T26 l0 x11_1).f0, (rd_T26 l0 x11_1).f1, (rd_T26 l0 x11_1).f2, (rd_T26 l0 x11_1).f3⟩ : S26)]) true (wrap64 (x11_1 + 1)) a2_0 a2_1 a2_2 a2_3) else (none))) else (none)) else (none))) else (none)) = some r := by rw [if_pos rfl] at H; exact H
              clear H
              have H := H1
              clear H1
              by_cases c11 : x9_1.length < 4398046511104
              · rw [if_pos c11] at H
                have LMc11 := Aside0.mk c11
                clear c11
                obtain ⟨y146, hy146⟩ : ∃ y_ : List (S26), y_ = (x9_1 ++ [(⟨a2_0, a2_1, a2_2, a2_3⟩ : S26)]) := ⟨_, rfl⟩
                replace H : (if 0 ≤ x11_1 then (if x11_1 < (l0.length : Int) then (if ((rd_T26 l0 x11_1).f0) = a1 then (sphragisref12_with.l0 kj6 l0 a1 y146 true (wrap64 (x11_1 + 1)) a2_0 a2_1 a2_2 a2_3) else (if y146.length < 4398046511104 then (sphragisref12_with.l0 kj6 l0 a1 (y146 ++ [(⟨(rd_T26 l0 x11_1).f0, (rd_T26 l0 x11_1).f1, (rd_T26 l0 x11_1).f2, (rd_T26 l0 x11_1).f3⟩ : S26)]) true (wrap64 (x11_1 + 1)) a2_0 a2_1 a2_2 a2_3) else (none))) else (none)) else (none)) = some r := by first | (rw [hy146]; with_reducible exact H) | (have H2_ := (Option.bind_some _ _).symm.trans H; rw [hy146]; with_reducible exact H2_) | (have H2_ := (Option.bind_some _ _).symm.trans H; with_reducible exact H2_) | with_reducible exact H | (rw [hy146]; exact H) | exact H
                have Ny146 := Aside0.mk hy146
                clear hy146
                by_cases c12 : 0 ≤ x11_1
                · rw [if_pos c12] at H
                  have c12b0 : decide (0 ≤ x11_1) = true := decide_eq_true c12
                  clear c12
                  by_cases c13 : x11_1 < (l0.length : Int)
                  · rw [if_pos c13] at H
                    have c13b0 : decide (x11_1 < (l0.length : Int)) = true := decide_eq_true c13
                    clear c13
                    by_cases c14 : ((rd_T26 l0 x11_1).f0) = a1
                    · rw [if_pos c14] at H
                      have c14b0 : (((rd_T26 l0 x11_1).f0) == a1) = true := beq_iff_eq.mpr c14
                      have c14b1 : (((rd_T26 l0 x11_1).f0) != a1) = false := bne_eq_false_iff_eq.mpr c14
                      clear c14
                      have H' := Aside0.mk H
                      clear H
                      have hcz15_0 : wc.cell? ⟨gb141, 0, none⟩ = some (.int .u64 a2_0) := (blk_cell BK141.out 0).trans rfl
                      have hcz15_1 : wc.cell? ⟨gb141, 1, none⟩ = some (.int .u32 a2_1) := (blk_cell BK141.out 1).trans rfl
                      have hcz15_2 : wc.cell? ⟨gb141, 2, none⟩ = some (.int .u32 a2_2) := (blk_cell BK141.out 2).trans rfl
                      have hcz15_3 : wc.cell? ⟨gb141, 3, none⟩ = some (.string a2_3) := (blk_cell BK141.out 3).trans rfl
                      have hfz15_0 := blk_frozen BK141.out 0
                      have hfz15_1 := blk_frozen BK141.out 1
                      have hfz15_2 := blk_frozen BK141.out 2
                      have hfz15_3 := blk_frozen BK141.out 3
                      go_wp2_with (first | ((with_reducible refine gate_builtin (b := .append) (xs := #[.tmp 31, .tmp 33]) rfl ?_); at_builtin; refine Kd.R_append k26 (w0 := w) w.heap.size rfl (.tmp 31) (.tmp 33) 22 26 (.agg #[(.int .u64 0), (.int .u32 0), (.int .u32 0), (.string ⟨#[]⟩)]) 32 rfl Try.underlying22 info26 rfl (by decide) (by omega) u9 x9_1 (⟨a2_0, a2_1, a2_2, a2_3⟩ : S26) [.int .u64 a2_0, .int .u32 a2_1, .int .u32 a2_2, .string a2_3] (fun k_ => k_ ≠ gb141) (fun _ => False) rfl rfl ?aP (fun _ hk => hk.elim) ?aF ?aO ?aB ?aS ?aL ?_; (case aP => exact k26_mkM _ _ _ (⟨a2_0, a2_1, a2_2, a2_3⟩ : S26)); (case aB => exact (by repeat (first | (with_reducible first | exact HB.out | apply below_alloc | apply pw_below_drewN | apply below_drew1 | refine below_set ?_ GE141.out) | exact HB.out))); (case aF => exact (fun k_ hk => Kd.freshB (g := gb141) (o := .cells #[.int .u64 a2_0, .int .u32 a2_1, .int .u32 a2_2, .string a2_3] 26 (0, 0)) (by (with_reducible repeat (first | refine blk_drewN ?_ _ | refine blk_drew ?_ | refine blk_alloc ?_ _)); exact BK141.out) k_ hk)); (case aO => exact (by (with_reducible repeat (first | apply Kd.R_alloc | apply Kd.R_drewN | apply Kd.R_drew)); exact HO_9.out)); (case aS => exact (below_size (by repeat (first | (with_reducible first | exact HB.out | apply below_alloc | apply pw_below_drewN | apply below_drew1 | refine below_set ?_ GE141.out) | exact HB.out)))); (case aL => have := LMc11.out; omega); intro v147 w16 ho hb hg hat; rw [← Ny146.out] at ho; have n0_ := Aside0.mk (blk_grown (g := gb141) (o := .cells #[.int .u64 a2_0, .int .u32 a2_1, .int .u32 a2_2, .string a2_3] 26 (0, 0)) (by (with_reducible repeat (first | refine blk_drewN ?_ _ | refine blk_drew ?_ | refine blk_alloc ?_ _)); exact BK141.out) hg (Kd.R_away HO_9.out (fun _ hk => hk))); have n1_ := Aside0.mk (hb); have n2_ := Aside0.mk (ho); clear BK141; clear HB; clear HO_9; have BK141 := n0_; have HB := n1_; have HO148 := n2_; clear n0_ n1_ n2_; clear ho hb hg hat; have p149 : 0 ≤ (x11_1 : Int) := of_decide_eq_true (by first | (with_reducible assumption) | assumption); have q149 : x11_1 < (l0.length : Int) := of_decide_eq_true (by first | (with_reducible assumption) | assumption); obtain ⟨ad149, e149, hx149_0, hx149_1, hx149_2, hx149_3⟩ := at_T26 HR0.out x11_1 p149 q149; cases e149; replace hx149_0 := (HB.out.cell (World.block_lt_of_cell? w _ hx149_0)).trans hx149_0; replace hx149_1 := (HB.out.cell (World.block_lt_of_cell? w _ hx149_1)).trans hx149_1; replace hx149_2 := (HB.out.cell (World.block_lt_of_cell? w _ hx149_2)).trans hx149_2; replace hx149_3 := (HB.out.cell (World.block_lt_of_cell? w _ hx149_3)).trans hx149_3; replace p149 := eq_true p149; replace q149 := eq_true q149))
                      go_roundg kj6
                      case measure => have := HK1.out; have := HJ6.out; omega
                      case rel => exact ⟨(y146), (true), (wrap64 (x11_1 + 1)), (by first | rfl | (simp; done) | (simp [*]; done)), (by first | rfl | (simp; done) | (simp [*]; done)), H', ⟨by have := HK1.out; have := HJ6.out; omega⟩, ⟨by (with_reducible repeat (first | apply Kd.R_alloc | apply Kd.R_drewN | apply Kd.R_drew)); exact HO148.out⟩, ⟨by (with_reducible repeat (first | refine blk_drewN ?_ _ | refine blk_drew ?_ | refine blk_alloc ?_ _)); exact BK141.out⟩, ⟨by repeat (first | (with_reducible first | exact HB.out | apply below_alloc | apply pw_below_drewN | apply below_drew1 | refine below_set ?_ GE141.out) | exact HB.out)⟩⟩
                    · rw [if_neg c14] at H
                      have c14b0 : (((rd_T26 l0 x11_1).f0) == a1) = false := beq_eq_false_iff_ne.mpr c14
                      have c14b1 : (((rd_T26 l0 x11_1).f0) != a1) = true := bne_iff_ne.mpr c14
                      by_cases c17 : y146.length < 4398046511104
                      · rw [if_pos c17] at H
                        have LMc17 := Aside0.mk c17
                        clear c17
                        obtain ⟨y151, hy151⟩ : ∃ y_ : List (S26), y_ = (y146 ++ [(⟨(rd_T26 l0 x11_1).f0, (rd_T26 l0 x11_1).f1, (rd_T26 l0 x11_1).f2, (rd_T26 l0 x11_1).f3⟩ : S26)]) := ⟨_, rfl⟩
                        replace H : (sphragisref12_with.l0 kj6 l0 a1 y151 true (wrap64 (x11_1 + 1)) a2_0 a2_1 a2_2 a2_3) = some r := by first | (rw [hy151]; with_reducible exact H) | (have H2_ := (Option.bind_some _ _).symm.trans H; rw [hy151]; with_reducible exact H2_) | (have H2_ := (Option.bind_some _ _).symm.trans H; with_reducible exact H2_) | with_reducible exact H | (rw [hy151]; exact H) | exact H
                        have Ny151 := Aside0.mk hy151
                        clear hy151
                        have H' := Aside0.mk H
                        clear H
                        have hcz18_0 : wc.cell? ⟨gb141, 0, none⟩ = some (.int .u64 a2_0) := (blk_cell BK141.out 0).trans rfl
                        have hcz18_1 : wc.cell? ⟨gb141, 1, none⟩ = some (.int .u32 a2_1) := (blk_cell BK141.out 1).trans rfl
                        have hcz18_2 : wc.cell? ⟨gb141, 2, none⟩ = some (.int .u32 a2_2) := (blk_cell BK141.out 2).trans rfl
                        have hcz18_3 : wc.cell? ⟨gb141, 3, none⟩ = some (.string a2_3) := (blk_cell BK141.out 3).trans rfl
                        have hfz18_0 := blk_frozen BK141.out 0
                        have hfz18_1 := blk_frozen BK141.out 1
                        have hfz18_2 := blk_frozen BK141.out 2
                        have hfz18_3 := blk_frozen BK141.out 3
                        go_wp2_with (first | ((with_reducible refine gate_builtin (b := .append) (xs := #[.tmp 31, .tmp 33]) rfl ?_); at_builtin; refine Kd.R_append k26 (w0 := w) w.heap.size rfl (.tmp 31) (.tmp 33) 22 26 (.agg #[(.int .u64 0), (.int .u32 0), (.int .u32 0), (.string ⟨#[]⟩)]) 32 rfl Try.underlying22 info26 rfl (by decide) (by omega) u9 x9_1 (⟨a2_0, a2_1, a2_2, a2_3⟩ : S26) [.int .u64 a2_0, .int .u32 a2_1, .int .u32 a2_2, .string a2_3] (fun k_ => k_ ≠ gb141) (fun _ => False) rfl rfl ?aP (fun _ hk => hk.elim) ?aF ?aO ?aB ?aS ?aL ?_; (case aP => exact k26_mkM _ _ _ (⟨a2_0, a2_1, a2_2, a2_3⟩ : S26)); (case aB => exact (by repeat (first | (with_reducible first | exact HB.out | apply below_alloc | apply pw_below_drewN | apply below_drew1 | refine below_set ?_ GE141.out) | exact HB.out))); (case aF => exact (fun k_ hk => Kd.freshB (g := gb141) (o := .cells #[.int .u64 a2_0, .int .u32 a2_1, .int .u32 a2_2, .string a2_3] 26 (0, 0)) (by (with_reducible repeat (first | refine blk_drewN ?_ _ | refine blk_drew ?_ | refine blk_alloc ?_ _)); exact BK141.out) k_ hk)); (case aO => exact (by (with_reducible repeat (first | apply Kd.R_alloc | apply Kd.R_drewN | apply Kd.R_drew)); exact HO_9.out)); (case aS => exact (below_size (by repeat (first | (with_reducible first | exact HB.out | apply below_alloc | apply pw_below_drewN | apply below_drew1 | refine below_set ?_ GE141.out) | exact HB.out)))); (case aL => have := LMc11.out; omega); intro v147 w19 ho hb hg hat; rw [← Ny146.out] at ho; have n0_ := Aside0.mk (blk_grown (g := gb141) (o := .cells #[.int .u64 a2_0, .int .u32 a2_1, .int .u32 a2_2, .string a2_3] 26 (0, 0)) (by (with_reducible repeat (first | refine blk_drewN ?_ _ | refine blk_drew ?_ | refine blk_alloc ?_ _)); exact BK141.out) hg (Kd.R_away HO_9.out (fun _ hk => hk))); have n1_ := Aside0.mk (hb); have n2_ := Aside0.mk (ho); clear BK141; clear HB; clear HO_9; have BK141 := n0_; have HB := n1_; have HO148 := n2_; clear n0_ n1_ n2_; clear ho hb hg hat; have p149 : 0 ≤ (x11_1 : Int) := of_decide_eq_true (by first | (with_reducible assumption) | assumption); have q149 : x11_1 < (l0.length : Int) := of_decide_eq_true (by first | (with_reducible assumption) | assumption); obtain ⟨ad149, e149, hx149_0, hx149_1, hx149_2, hx149_3⟩ := at_T26 HR0.out x11_1 p149 q149; cases e149; replace hx149_0 := (HB.out.cell (World.block_lt_of_cell? w _ hx149_0)).trans hx149_0; replace hx149_1 := (HB.out.cell (World.block_lt_of_cell? w _ hx149_1)).trans hx149_1; replace hx149_2 := (HB.out.cell (World.block_lt_of_cell? w _ hx149_2)).trans hx149_2; replace hx149_3 := (HB.out.cell (World.block_lt_of_cell? w _ hx149_3)).trans hx149_3; replace p149 := eq_true p149; replace q149 := eq_true q149; have p150 : 0 ≤ (x11_1 : Int) := of_decide_eq_true (by first | (with_reducible assumption) | assumption); have q150 : x11_1 < (l0.length : Int) := of_decide_eq_true (by first | (with_reducible assumption) | assumption); obtain ⟨ad150, e150, hx150_0, hx150_1, hx150_2, hx150_3⟩ := at_T26 HR0.out x11_1 p150 q150; obtain rfl : ad149 = ad150 := (by injection e150); replace hx150_0 := (HB.out.cell (World.block_lt_of_cell? w _ hx150_0)).trans hx150_0; replace hx150_1 := (HB.out.cell (World.block_lt_of_cell? w _ hx150_1)).trans hx150_1; replace hx150_2 := (HB.out.cell (World.block_lt_of_cell? w _ hx150_2)).trans hx150_2; replace hx150_3 := (HB.out.cell (World.block_lt_of_cell? w _ hx150_3)).trans hx150_3; replace p150 := eq_true p150; replace q150 := eq_true q150) | ((with_reducible refine gate_builtin (b := .append) (xs := #[.tmp 42, .tmp 47]) rfl ?_); at_builtin; refine Kd.R_append k26 (w0 := w) w.heap.size rfl (.tmp 42) (.tmp 47) 22 26 (.agg #[(.int .u64 0), (.int .u32 0), (.int .u32 0), (.string ⟨#[]⟩)]) 32 rfl Try.underlying22 info26 rfl (by decide) (by omega) v147 y146 (⟨(rd_T26 l0 x11_1).f0, (rd_T26 l0 x11_1).f1, (rd_T26 l0 x11_1).f2, (rd_T26 l0 x11_1).f3⟩ : S26) [.int .u64 ((rd_T26 l0 x11_1).f0), .int .u32 ((rd_T26 l0 x11_1).f1), .int .u32 ((rd_T26 l0 x11_1).f2), .string ((rd_T26 l0 x11_1).f3)] (fun k_ => k_ ≠ gb141) (fun _ => False) rfl rfl ?aP (fun _ hk => hk.elim) ?aF ?aO ?aB ?aS ?aL ?_; (case aP => exact k26_mkM _ _ _ (⟨(rd_T26 l0 x11_1).f0, (rd_T26 l0 x11_1).f1, (rd_T26 l0 x11_1).f2, (rd_T26 l0 x11_1).f3⟩ : S26)); (case aB => exact (by repeat (first | (with_reducible first | exact HB.out | apply below_alloc | apply pw_below_drewN | apply below_drew1 | refine below_set ?_ GE141.out) | exact HB.out))); (case aF => exact (fun k_ hk => Kd.freshB (g := gb141) (o := .cells #[.int .u64 a2_0, .int .u32 a2_1, .int .u32 a2_2, .string a2_3] 26 (0, 0)) (by (with_reducible repeat (first | refine blk_drewN ?_ _ | refine blk_drew ?_ | refine blk_alloc ?_ _)); exact BK141.out) k_ hk)); (case aO => exact (by (with_reducible repeat (first | apply Kd.R_alloc | apply Kd.R_drewN | apply Kd.R_drew)); exact HO148.out)); (case aS => exact (below_size (by repeat (first | (with_reducible first | exact HB.out | apply below_alloc | apply pw_below_drewN | apply below_drew1 | refine below_set ?_ GE141.out) | exact HB.out)))); (case aL => have := LMc17.out; omega); intro v152 w20 ho hb hg hat; rw [← Ny151.out] at ho; have n0_ := Aside0.mk (blk_grown (g := gb141) (o := .cells #[.int .u64 a2_0, .int .u32 a2_1, .int .u32 a2_2, .string a2_3] 26 (0, 0)) (by (with_reducible repeat (first | refine blk_drewN ?_ _ | refine blk_drew ?_ | refine blk_alloc ?_ _)); exact BK141.out) hg (Kd.R_away HO148.out (fun _ hk => hk))); have n1_ := Aside0.mk (hb); have n2_ := Aside0.mk (ho); clear BK141; clear HB; clear HO148; have BK141 := n0_; have HB := n1_; have HO153 := n2_; clear n0_ n1_ n2_; clear ho hb hg hat))
                        go_roundg kj6
                        case measure => have := HK1.out; have := HJ6.out; omega
                        case rel => exact ⟨(y151), (true), (wrap64 (x11_1 + 1)), (by first | rfl | (simp; done) | (simp [*]; done)), (by first | rfl | (simp; done) | (simp [*]; done)), H', ⟨by have := HK1.out; have := HJ6.out; omega⟩, ⟨by (with_reducible repeat (first | apply Kd.R_alloc | apply Kd.R_drewN | apply Kd.R_drew)); exact HO153.out⟩, ⟨by (with_reducible repeat (first | refine blk_drewN ?_ _ | refine blk_drew ?_ | refine blk_alloc ?_ _)); exact BK141.out⟩, ⟨by repeat (first | (with_reducible first | exact HB.out | apply below_alloc | apply pw_below_drewN | apply below_drew1 | refine below_set ?_ GE141.out) | exact HB.out)⟩⟩
                      · rw [if_neg c17] at H
                        exact absurd H (by simp)
                  · rw [if_neg c13] at H
                    exact absurd H (by simp)
                · rw [if_neg c12] at H
                  exact absurd H (by simp)
              · rw [if_neg c11] at H
                exact absurd H (by simp)
            · replace c10 := Bool.eq_false_iff.mpr c10
              subst c10
              have H1 : (if 0 ≤ x11_1 then (if x11_1 < (l0.length : Int) then (if ((rd_T26 l0 x11_1).f0) = a1 then (sphragisref12_with.l0 kj6 l0 a1 x9_1 x10_1 (wrap64 (x11_1 + 1)) a2_0 a2_1 a2_2 a2_3) else (if x9_1.length < 4398046511104 then (sphragisref12_with.l0 kj6 l0 a1 (x9_1 ++ [(⟨(rd_T26 l0 x11_1).f0, (rd_T26 l0 x11_1).f1, (rd_T26 l0 x11_1).f2, (rd_T26 l0 x11_1).f3⟩ : S26)]) x10_1 (wrap64 (x11_1 + 1)) a2_0 a2_1 a2_2 a2_3) else (none))) else (none)) else (none)) = some r := by rw [if_neg (show ¬ (false = true) by decide)] at H; exact H
              clear H
              have H := H1
              clear H1
              by_cases c21 : 0 ≤ x11_1
              · rw [if_pos c21] at H
                have c21b0 : decide (0 ≤ x11_1) = true := decide_eq_true c21
                clear c21
                by_cases c22 : x11_1 < (l0.length : Int)
                · rw [if_pos c22] at H
                  have c22b0 : decide (x11_1 < (l0.length : Int)) = true := decide_eq_true c22
                  clear c22
                  by_cases c23 : ((rd_T26 l0 x11_1).f0) = a1
                  · rw [if_pos c23] at H
                    have c23b0 : (((rd_T26 l0 x11_1).f0) == a1) = true := beq_iff_eq.mpr c23
                    have c23b1 : (((rd_T26 l0 x11_1).f0) != a1) = false := bne_eq_false_iff_eq.mpr c23
                    clear c23
                    have H' := Aside0.mk H
                    clear H
                    have p154 : 0 ≤ (x11_1 : Int) := of_decide_eq_true (by first | (with_reducible assumption) | assumption)
                    have q154 : x11_1 < (l0.length : Int) := of_decide_eq_true (by first | (with_reducible assumption) | assumption)
                    obtain ⟨ad154, e154, hx154_0, hx154_1, hx154_2, hx154_3⟩ := at_T26 HR0.out x11_1 p154 q154
                    cases e154
                    replace hx154_0 := (HB.out.cell (World.block_lt_of_cell? w _ hx154_0)).trans hx154_0
                    replace hx154_1 := (HB.out.cell (World.block_lt_of_cell? w _ hx154_1)).trans hx154_1
                    replace hx154_2 := (HB.out.cell (World.block_lt_of_cell? w _ hx154_2)).trans hx154_2
                    replace hx154_3 := (HB.out.cell (World.block_lt_of_cell? w _ hx154_3)).trans hx154_3
                    replace p154 := eq_true p154
                    replace q154 := eq_true q154
                    go_wp2
                    go_roundg kj6
                    case measure => have := HK1.out; have := HJ6.out; omega
                    case rel => exact ⟨(x9_1), (x10_1), (wrap64 (x11_1 + 1)), (by first | rfl | (simp; done) | (simp [*]; done)), (by first | rfl | (simp; done) | (simp [*]; done)), H', ⟨by have := HK1.out; have := HJ6.out; omega⟩, ⟨by (with_reducible repeat (first | apply Kd.R_alloc | apply Kd.R_drewN | apply Kd.R_drew)); exact HO_9.out⟩, ⟨by (with_reducible repeat (first | refine blk_drewN ?_ _ | refine blk_drew ?_ | refine blk_alloc ?_ _)); exact BK141.out⟩, ⟨by repeat (first | (with_reducible first | exact HB.out | apply below_alloc | apply pw_below_drewN | apply below_drew1 | refine below_set ?_ GE141.out) | exact HB.out)⟩⟩
                  · rw [if_neg c23] at H
                    have c23b0 : (((rd_T26 l0 x11_1).f0) == a1) = false := beq_eq_false_iff_ne.mpr c23
                    have c23b1 : (((rd_T26 l0 x11_1).f0) != a1) = true := bne_iff_ne.mpr c23
                    by_cases c24 : x9_1.length < 4398046511104
                    · rw [if_pos c24] at H
                      have LMc24 := Aside0.mk c24
                      clear c24
                      obtain ⟨y156, hy156⟩ : ∃ y_ : List (S26), y_ = (x9_1 ++ [(⟨(rd_T26 l0 x11_1).f0, (rd_T26 l0 x11_1).f1, (rd_T26 l0 x11_1).f2, (rd_T26 l0 x11_1).f3⟩ : S26)]) := ⟨_, rfl⟩
                      replace H : (sphragisref12_with.l0 kj6 l0 a1 y156 x10_1 (wrap64 (x11_1 + 1)) a2_0 a2_1 a2_2 a2_3) = some r := by first | (rw [hy156]; with_reducible exact H) | (have H2_ := (Option.bind_some _ _).symm.trans H; rw [hy156]; with_reducible exact H2_) | (have H2_ := (Option.bind_some _ _).symm.trans H; with_reducible exact H2_) | with_reducible exact H | (rw [hy156]; exact H) | exact H
                      have Ny156 := Aside0.mk hy156
                      clear hy156
                      have H' := Aside0.mk H
                      clear H
                      have p154 : 0 ≤ (x11_1 : Int) := of_decide_eq_true (by first | (with_reducible assumption) | assumption)
                      have q154 : x11_1 < (l0.length : Int) := of_decide_eq_true (by first | (with_reducible assumption) | assumption)
                      obtain ⟨ad154, e154, hx154_0, hx154_1, hx154_2, hx154_3⟩ := at_T26 HR0.out x11_1 p154 q154
                      cases e154
                      replace hx154_0 := (HB.out.cell (World.block_lt_of_cell? w _ hx154_0)).trans hx154_0
                      replace hx154_1 := (HB.out.cell (World.block_lt_of_cell? w _ hx154_1)).trans hx154_1
                      replace hx154_2 := (HB.out.cell (World.block_lt_of_cell? w _ hx154_2)).trans hx154_2
                      replace hx154_3 := (HB.out.cell (World.block_lt_of_cell? w _ hx154_3)).trans hx154_3
                      replace p154 := eq_true p154
                      replace q154 := eq_true q154
                      have p155 : 0 ≤ (x11_1 : Int) := of_decide_eq_true (by first | (with_reducible assumption) | assumption)
                      have q155 : x11_1 < (l0.length : Int) := of_decide_eq_true (by first | (with_reducible assumption) | assumption)
                      obtain ⟨ad155, e155, hx155_0, hx155_1, hx155_2, hx155_3⟩ := at_T26 HR0.out x11_1 p155 q155
                      obtain rfl : ad154 = ad155 := (by injection e155)
                      replace hx155_0 := (HB.out.cell (World.block_lt_of_cell? w _ hx155_0)).trans hx155_0
                      replace hx155_1 := (HB.out.cell (World.block_lt_of_cell? w _ hx155_1)).trans hx155_1
                      replace hx155_2 := (HB.out.cell (World.block_lt_of_cell? w _ hx155_2)).trans hx155_2
                      replace hx155_3 := (HB.out.cell (World.block_lt_of_cell? w _ hx155_3)).trans hx155_3
                      replace p155 := eq_true p155
                      replace q155 := eq_true q155
                      go_wp2_with (first | ((with_reducible refine gate_builtin (b := .append) (xs := #[.tmp 42, .tmp 47]) rfl ?_); at_builtin; refine Kd.R_append k26 (w0 := w) w.heap.size rfl (.tmp 42) (.tmp 47) 22 26 (.agg #[(.int .u64 0), (.int .u32 0), (.int .u32 0), (.string ⟨#[]⟩)]) 32 rfl Try.underlying22 info26 rfl (by decide) (by omega) u9 x9_1 (⟨(rd_T26 l0 x11_1).f0, (rd_T26 l0 x11_1).f1, (rd_T26 l0 x11_1).f2, (rd_T26 l0 x11_1).f3⟩ : S26) [.int .u64 ((rd_T26 l0 x11_1).f0), .int .u32 ((rd_T26 l0 x11_1).f1), .int .u32 ((rd_T26 l0 x11_1).f2), .string ((rd_T26 l0 x11_1).f3)] (fun k_ => k_ ≠ gb141) (fun _ => False) rfl rfl ?aP (fun _ hk => hk.elim) ?aF ?aO ?aB ?aS ?aL ?_; (case aP => exact k26_mkM _ _ _ (⟨(rd_T26 l0 x11_1).f0, (rd_T26 l0 x11_1).f1, (rd_T26 l0 x11_1).f2, (rd_T26 l0 x11_1).f3⟩ : S26)); (case aB => exact (by repeat (first | (with_reducible first | exact HB.out | apply below_alloc | apply pw_below_drewN | apply below_drew1 | refine below_set ?_ GE141.out) | exact HB.out))); (case aF => exact (fun k_ hk => Kd.freshB (g := gb141) (o := .cells #[.int .u64 a2_0, .int .u32 a2_1, .int .u32 a2_2, .string a2_3] 26 (0, 0)) (by (with_reducible repeat (first | refine blk_drewN ?_ _ | refine blk_drew ?_ | refine blk_alloc ?_ _)); exact BK141.out) k_ hk)); (case aO => exact (by (with_reducible repeat (first | apply Kd.R_alloc | apply Kd.R_drewN | apply Kd.R_drew)); exact HO_9.out)); (case aS => exact (below_size (by repeat (first | (with_reducible first | exact HB.out | apply below_alloc | apply pw_below_drewN | apply below_drew1 | refine below_set ?_ GE141.out) | exact HB.out)))); (case aL => have := LMc24.out; omega); intro v157 w25 ho hb hg hat; rw [← Ny156.out] at ho; have n0_ := Aside0.mk (blk_grown (g := gb141) (o := .cells #[.int .u64 a2_0, .int .u32 a2_1, .int .u32 a2_2, .string a2_3] 26 (0, 0)) (by (with_reducible repeat (first | refine blk_drewN ?_ _ | refine blk_drew ?_ | refine blk_alloc ?_ _)); exact BK141.out) hg (Kd.R_away HO_9.out (fun _ hk => hk))); have n1_ := Aside0.mk (hb); have n2_ := Aside0.mk (ho); clear BK141; clear HB; clear HO_9; have BK141 := n0_; have HB := n1_; have HO158 := n2_; clear n0_ n1_ n2_; clear ho hb hg hat))
                      go_roundg kj6
                      case measure => have := HK1.out; have := HJ6.out; omega
                      case rel => exact ⟨(y156), (x10_1), (wrap64 (x11_1 + 1)), (by first | rfl | (simp; done) | (simp [*]; done)), (by first | rfl | (simp; done) | (simp [*]; done)), H', ⟨by have := HK1.out; have := HJ6.out; omega⟩, ⟨by (with_reducible repeat (first | apply Kd.R_alloc | apply Kd.R_drewN | apply Kd.R_drew)); exact HO158.out⟩, ⟨by (with_reducible repeat (first | refine blk_drewN ?_ _ | refine blk_drew ?_ | refine blk_alloc ?_ _)); exact BK141.out⟩, ⟨by repeat (first | (with_reducible first | exact HB.out | apply below_alloc | apply pw_below_drewN | apply below_drew1 | refine below_set ?_ GE141.out) | exact HB.out)⟩⟩
                    · rw [if_neg c24] at H
                      exact absurd H (by simp)
                · rw [if_neg c22] at H
                  exact absurd H (by simp)
              · rw [if_neg c21] at H
                exact absurd H (by simp)
      · rw [if_neg c6] at H
        have c6b0 : decide (x11_1 < (l0.length : Int)) = false := decide_eq_false c6
        clear c6
        by_cases c26 : x10_1 = true
        · subst c26
          have H1 : (some x9_1) = some r := by rw [if_pos rfl] at H; exact H
          clear H
          have H := H1
          clear H1
          obtain rfl := Option.some.inj H
          go_wp2
          go_ret
          exact ⟨_, by first | rfl | (simp [errW_none, errW_some] <;> rfl) | (simp [*, errW_none, errW_some] <;> rfl), by (with_reducible repeat (first | apply Kd.R_alloc | apply Kd.R_drewN | apply Kd.R_drew)); exact Kd.R_mono HO_9.out (fun _ hk => trivial), by repeat (first | (with_reducible first | exact HB.out | apply below_alloc | apply pw_below_drewN | apply below_drew1 | refine below_set ?_ GE141.out) | exact HB.out)⟩
        · replace c26 := Bool.eq_false_iff.mpr c26
          subst c26
          have H1 : (if x9_1.length < 4398046511104 then (some (x9_1 ++ [(⟨a2_0, a2_1, a2_2, a2_3⟩ : S26)])) else (none)) = some r := by rw [if_neg (show ¬ (false = true) by decide)] at H; exact H
          clear H
          have H := H1
          clear H1
          by_cases c27 : x9_1.length < 4398046511104
          · rw [if_pos c27] at H
            have LMc27 := Aside0.mk c27
            clear c27
            obtain ⟨y142, hy142⟩ : ∃ y_ : List (S26), y_ = (x9_1 ++ [(⟨a2_0, a2_1, a2_2, a2_3⟩ : S26)]) := ⟨_, rfl⟩
            replace H : (some y142) = some r := by first | (rw [hy142]; with_reducible exact H) | (have H2_ := (Option.bind_some _ _).symm.trans H; rw [hy142]; with_reducible exact H2_) | (have H2_ := (Option.bind_some _ _).symm.trans H; with_reducible exact H2_) | with_reducible exact H | (rw [hy142]; exact H) | exact H
            have Ny142 := Aside0.mk hy142
            clear hy142
            obtain rfl := Option.some.inj H
            have hcz28_0 : wr.cell? ⟨gb141, 0, none⟩ = some (.int .u64 a2_0) := (blk_cell BK141.out 0).trans rfl
            have hcz28_1 : wr.cell? ⟨gb141, 1, none⟩ = some (.int .u32 a2_1) := (blk_cell BK141.out 1).trans rfl
            have hcz28_2 : wr.cell? ⟨gb141, 2, none⟩ = some (.int .u32 a2_2) := (blk_cell BK141.out 2).trans rfl
            have hcz28_3 : wr.cell? ⟨gb141, 3, none⟩ = some (.string a2_3) := (blk_cell BK141.out 3).trans rfl
            have hfz28_0 := blk_frozen BK141.out 0
            have hfz28_1 := blk_frozen BK141.out 1
            have hfz28_2 := blk_frozen BK141.out 2
            have hfz28_3 := blk_frozen BK141.out 3
            go_wp2_with (first | ((with_reducible refine gate_builtin (b := .append) (xs := #[.tmp 51, .tmp 53]) rfl ?_); at_builtin; refine Kd.R_append k26 (w0 := w) w.heap.size rfl (.tmp 51) (.tmp 53) 22 26 (.agg #[(.int .u64 0), (.int .u32 0), (.int .u32 0), (.string ⟨#[]⟩)]) 32 rfl Try.underlying22 info26 rfl (by decide) (by omega) u9 x9_1 (⟨a2_0, a2_1, a2_2, a2_3⟩ : S26) [.int .u64 a2_0, .int .u32 a2_1, .int .u32 a2_2, .string a2_3] (fun k_ => k_ ≠ gb141) (fun _ => False) rfl rfl ?aP (fun _ hk => hk.elim) ?aF ?aO ?aB ?aS ?aL ?_; (case aP => exact k26_mkM _ _ _ (⟨a2_0, a2_1, a2_2, a2_3⟩ : S26)); (case aB => exact (by repeat (first | (with_reducible first | exact HB.out | apply below_alloc | apply pw_below_drewN | apply below_drew1 | refine below_set ?_ GE141.out) | exact HB.out))); (case aF => exact (fun k_ hk => Kd.freshB (g := gb141) (o := .cells #[.int .u64 a2_0, .int .u32 a2_1, .int .u32 a2_2, .string a2_3] 26 (0, 0)) (by (with_reducible repeat (first | refine blk_drewN ?_ _ | refine blk_drew ?_ | refine blk_alloc ?_ _)); exact BK141.out) k_ hk)); (case aO => exact (by (with_reducible repeat (first | apply Kd.R_alloc | apply Kd.R_drewN | apply Kd.R_drew)); exact HO_9.out)); (case aS => exact (below_size (by repeat (first | (with_reducible first | exact HB.out | apply below_alloc | apply pw_below_drewN | apply below_drew1 | refine below_set ?_ GE141.out) | exact HB.out)))); (case aL => have := LMc27.out; omega); intro v143 w29 ho hb hg hat; rw [← Ny142.out] at ho; have n0_ := Aside0.mk (blk_grown (g := gb141) (o := .cells #[.int .u64 a2_0, .int .u32 a2_1, .int .u32 a2_2, .string a2_3] 26 (0, 0)) (by (with_reducible repeat (first | refine blk_drewN ?_ _ | refine blk_drew ?_ | refine blk_alloc ?_ _)); exact BK141.out) hg (Kd.R_away HO_9.out (fun _ hk => hk))); have n1_ := Aside0.mk (hb); have n2_ := Aside0.mk (ho); clear BK141; clear HB; clear HO_9; have BK141 := n0_; have HB := n1_; have HO144 := n2_; clear n0_ n1_ n2_; clear ho hb hg hat))
            go_ret
            exact ⟨_, by first | rfl | (simp [errW_none, errW_some] <;> rfl) | (simp [*, errW_none, errW_some] <;> rfl), by (with_reducible repeat (first | apply Kd.R_alloc | apply Kd.R_drewN | apply Kd.R_drew)); exact Kd.R_mono HO144.out (fun _ hk => trivial), by repeat (first | (with_reducible first | exact HB.out | apply below_alloc | apply pw_below_drewN | apply below_drew1 | refine below_set ?_ GE141.out) | exact HB.out)⟩
          · rw [if_neg c27] at H
            exact absurd H (by simp)

end Go.Proofs.Ytpgjbabbfnglfaa.P

-- Laid by a program of this session: the walk of functions of the translation, for this claim.
import Derived.Test.YtnpnmbfbdnbeoaaPx0
import Derived.Test.YtnpnmbfbdnbeoaaPx2
namespace Go.Proofs.Ytnpnmbfbdnbeoaa.P
open Go.RowKit Go.Proofs.YtnpnmbfbdnbeoaaOwn Go.Proofs.YtnpnmbfbdnbeoaaW.PrintWords Go.Proofs.YtnpnmbfbdnbeoaaW.PrintLast Go.Proofs.YtnpnmbfbdnbeoaaW.PrintMore
attribute [local go_sem] max2_int min2_int max_two min_two max_three min_three max_four min_four   -- for this text's walks alone
set_option linter.unusedVariables false
set_option linter.unusedSimpArgs false

/-! ### cell_Where: function 23 -/
attribute [local go_sem] Oper.semAt_some
theorem cell_In.tot (a b c d u v : Int) : ∃ r, cell_In.f a b c d u v = some r := by
  unfold cell_In.f cell_RightBox.f
  repeat' split
  all_goals simp only [Option.bind_some]
  all_goals (repeat' split)
  all_goals exact ⟨_, rfl⟩
theorem cell_Has.tot (x y l u v : Int) : ∃ b, cell_Has.f x y l u v = some b := by
  unfold cell_Has.f
  obtain ⟨b, hb⟩ := cell_Right.tot x y l
  rw [hb]
  simp only [Option.bind_some]
  cases b with
  | false => exact ⟨_, if_neg (by simp)⟩
  | true =>
    obtain ⟨h0, h1, _⟩ := cell_Right.bd hb
    rw [if_pos rfl]
    unfold cell_all.f cell_size.f
    rw [if_pos h0]
    simp only [Option.bind_some]
    obtain ⟨r, hr⟩ := cell_In.tot x y ((x + IntKind.u64.wrap (shl .u64 1 l - 1)) % 4294967296) ((y + IntKind.u64.wrap (shl .u64 1 l - 1)) % 4294967296) u v
    rw [hr]
    exact ⟨r, rfl⟩

/-- Has a quarter the point? -/
def qHas (u v : Int) (q : Int × Int × Int × Int) : Bool := decide (cell_Has.f q.2.1 q.2.2.1 q.2.2.2 u v = some true)
def cell_Where.f (a0_0 a0_1 a0_2 a1 a2 : Int) : Option (Int × Int) :=
  if 0 ≤ a0_0 ∧ 0 ≤ a0_1 then some (match (qList a0_0 a0_1 a0_2).find? (qHas a1 a2) with | some q => (q.1, 0) | none => (0, 2)) else none

set_option maxRecDepth 100000 in
set_option maxHeartbeats 4000000 in
theorem cell_Where.calls (a0_0 a0_1 a0_2 a1 a2 r1 r2 : Int) (w : World) (h : cell_Where.f a0_0 a0_1 a0_2 a1 a2 = some (r1, r2)) :
    Calls Try.prog 23 #[.agg #[.int .u32 a0_0, .int .u32 a0_1, .int .i64 a0_2], .int .u32 a1, .int .u32 a2] w fun e w' => e = .returned (.tuple #[.int .i64 r1, .int .i64 r2]) ∧ Below w.heap.size w w' := by
  unfold cell_Where.f at h
  split at h
  case isFalse => exact absurd h (by simp)
  rename_i hh
  obtain ⟨hx, hy⟩ := hh
  have H := Aside0.mk (Option.some.inj h)
  clear h
  refine (callsIn_wide (n := 9)).1 ?_
  refine callsIn_of_wp_marks Try.func23 rfl trivial ?_ rfl
  simp only [Try.ntmps23, List.size_toArray, List.length_cons, List.length_nil, Nat.reduceAdd, Nat.reduceSub, Array.replicate_succ, Array.replicate_zero, List.push_toArray, List.append_toArray, List.nil_append, List.cons_append]
  have f39 : Fence.wide.fn 39 := trivial
  gi_wp2_with fail
  refine wpIn_scope_wide ?_
  gi_wp2_with fail
  refine wpIn_label ?_
  gi_wp2_with (gi_at_call 39; refine (CallsIn.mono (cell_quarters.calls a0_0 a0_1 a0_2 _) ?_); rintro e w1 ⟨rfl, rfl⟩)
  obtain ⟨W0, hW0⟩ : ∃ W0 : World, (((((w.alloc (.cells #[.int .u32 a0_0, .int .u32 a0_1, .int .i64 a0_2] 24)).alloc (.cells #[.int .u32 a1] 22)).alloc (.cells #[.int .u32 a2] 22)).alloc (.cells #[.int .i64 (-1)] 3)).alloc (.cells #[.int .u32 a0_0, .int .u32 a0_1, .int .i64 a0_2] 24)) = W0 := ⟨_, rfl⟩
  have hsz : W0.heap.size = w.heap.size + 5 := by rw [← hW0]; simp
  have hB0 : Below w.heap.size w W0 := by
    rw [← hW0]
    exact below_alloc' (below_alloc' (below_alloc' (below_alloc' (below_alloc' (Below.refl _ w) _) _) _) _) _
  have bx : W0.heap[w.heap.size + 1]? = some (.cells #[.int .u32 a1] 22 (0, 0)) := by
    rw [← hW0]
    have := boxc_alloc (boxc_alloc (boxc_alloc (boxc_new (w.alloc (.cells #[.int .u32 a0_0, .int .u32 a0_1, .int .i64 a0_2] 24)) #[.int .u32 a1] 22) (.cells #[.int .u32 a2] 22)) (.cells #[.int .i64 (-1)] 3)) (.cells #[.int .u32 a0_0, .int .u32 a0_1, .int .i64 a0_2] 24)
    simpa using this
  have by' : W0.heap[w.heap.size + 1 + 1]? = some (.cells #[.int .u32 a2] 22 (0, 0)) := by
    rw [← hW0]
    have := boxc_alloc (boxc_alloc (boxc_new ((w.alloc (.cells #[.int .u32 a0_0, .int .u32 a0_1, .int .i64 a0_2] 24)).alloc (.cells #[.int .u32 a1] 22)) #[.int .u32 a2] 22) (.cells #[.int .i64 (-1)] 3)) (.cells #[.int .u32 a0_0, .int .u32 a0_1, .int .i64 a0_2] 24)
    simpa using this
  have bat : W0.heap[w.heap.size + 1 + 1 + 1]? = some (.cells #[.int .i64 (-1)] 3 (0, 0)) := by
    rw [← hW0]
    have := boxc_alloc (boxc_new (((w.alloc (.cells #[.int .u32 a0_0, .int .u32 a0_1, .int .i64 a0_2] 24)).alloc (.cells #[.int .u32 a1] 22)).alloc (.cells #[.int .u32 a2] 22)) #[.int .i64 (-1)] 3) (.cells #[.int .u32 a0_0, .int .u32 a0_1, .int .i64 a0_2] 24)
    simpa using this
  have bq : W0.heap[w.heap.size + 1 + 1 + 1 + 1]? = some (.cells #[.int .u32 a0_0, .int .u32 a0_1, .int .i64 a0_2] 24 (0, 0)) := by
    rw [← hW0]
    have := boxc_new ((((w.alloc (.cells #[.int .u32 a0_0, .int .u32 a0_1, .int .i64 a0_2] 24)).alloc (.cells #[.int .u32 a1] 22)).alloc (.cells #[.int .u32 a2] 22)).alloc (.cells #[.int .i64 (-1)] 3)) #[.int .u32 a0_0, .int .u32 a0_1, .int .i64 a0_2] 24
    simpa using this
  rw [hW0]
  clear hW0
  refine wpIn_rangeFunc_ownH (w := W0) rfl (by decide) (gf := 41) (lb := #[.pointer (some ⟨w.heap.size + 1 + 1 + 1 + 1, 0, none⟩)]) rfl trivial (enters_of Try.func41 (by kernel_rfl) rfl)
    (cell_quarters.stops (w.heap.size + 1 + 1 + 1 + 1) W0.heap.size a0_0 a0_1 a0_2 hx hy W0 (by omega) (Nat.le_refl _) (boxc_cell bq 0) (boxc_cell bq 1) (boxc_cell bq 2)) belowK_t (belowK_b (Nat.le_refl _)) (Below.refl _ _) (fun _ => rfl)
    (fun pre W => W.heap[w.heap.size + 1]? = some (.cells #[.int .u32 a1] 22 (0, 0)) ∧ W.heap[w.heap.size + 1 + 1]? = some (.cells #[.int .u32 a2] 22 (0, 0)) ∧ W.heap[w.heap.size + 1 + 1 + 1]? = some (.cells #[.int .i64 (-1)] 3 (0, 0)) ∧ Below w.heap.size w W ∧ W0.heap.size ≤ W.heap.size ∧ pre.find? (qHas a1 a2) = none)
    (fun c pre W => c = .exit 0 ∧ ∃ q, pre.find? (qHas a1 a2) = some q ∧ W.heap[w.heap.size + 1 + 1 + 1]? = some (.cells #[.int .i64 q.1] 3 (0, 0)) ∧ Below w.heap.size w W)
    (fun s X Y row ⟨h1, h2, h3, h4, h5, h6⟩ hg hr => ⟨boxc_keep h1 hg hr, boxc_keep h2 hg hr, boxc_keep h3 hg hr, below_keep h4 hg hr (by omega), size_keep h5 hg, h6⟩)
    (fun c s X Y row ⟨h1, q, h2, h3, h4⟩ hg hr => ⟨h1, q, h2, boxc_keep h3 hg hr, below_keep h4 hg hr (by omega)⟩)
    ⟨bx, by', bat, hB0, Nat.le_refl _, rfl⟩
    (fun q a' W => ∃ Bx, W0.heap.size ≤ Bx ∧ W.heap[Bx]? = some (.cells #[.int .u32 q.2.1, .int .u32 q.2.2.1, .int .i64 q.2.2.2] 24 (0, 0)) ∧ a' = { tmps := #[.agg #[.int .u32 a0_0, .int .u32 a0_1, .int .i64 a0_2], .int .u32 a1, .int .u32 a2, .pointer (some ⟨w.heap.size, 0, none⟩), .pointer (some ⟨w.heap.size + 1, 0, none⟩), .pointer (some ⟨w.heap.size + 1 + 1, 0, none⟩), .int .i64 0, .int .i64 0, .pointer (some ⟨w.heap.size + 1 + 1 + 1, 0, none⟩), .int .i64 q.1, .pointer (some ⟨Bx, 0, none⟩), .agg #[.int .u32 a0_0, .int .u32 a0_1, .int .i64 a0_2], .func (.func 41) #[] #[.pointer (some ⟨w.heap.size + 1 + 1 + 1 + 1, 0, none⟩)], .int .i64 q.1, .agg #[.int .u32 q.2.1, .int .u32 q.2.2.1, .int .i64 q.2.2.2], undef, undef, undef, undef, undef, undef, undef, undef], defers := [] })
    (fun q a' s X Y row ⟨Bx, h1, h2, h3⟩ hg hr => ⟨Bx, h1, boxc_keep h2 hg hr, h3⟩) ?assign ?body ?done ?stop
  case assign =>
    rintro l pre q W K ⟨h1, h2, h3, h4, h5, h6⟩ hK
    gi_wp2
    exact hK _ _ (keeps_below ((Below.refl _ W).alloc (Nat.le_refl _) _)) ((Below.refl _ W).alloc h5 _) ⟨boxc_alloc h1 _, boxc_alloc h2 _, boxc_alloc h3 _, below_alloc' h4 _, by simp; omega, h6⟩ ⟨W.heap.size, h5, boxc_new W _ _, rfl⟩
  case body =>
    rintro l pre q a' W hl ⟨r, hr⟩ ⟨h1, h2, h3, h4, h5, h6⟩ ⟨Bx, hBx, hbx, rfl⟩ hlt
    obtain ⟨b, hb⟩ := cell_Has.tot q.2.1 q.2.2.1 q.2.2.2 a1 a2
    have HH := Aside0.mk hb
    have hq : qHas a1 a2 q = b := by unfold qHas; rw [hb]; cases b <;> rfl
    have HQ := Aside0.mk hq
    clear hb hq
    have HI := Aside0.mk h6
    clear h6
    have f17 : Fence.wide.fn 17 := trivial
    have c1 := boxc_cell h1 0
    have c2 := boxc_cell h2 0
    have c3 := boxc_cell hbx 0
    have c4 := boxc_cell hbx 1
    have c5 := boxc_cell hbx 2
    cases b with
    | false =>
      gi_wp2_with (gi_at_call 17; refine (CallsIn.inRound l (callsIn_wide.2 (cell_Has.calls q.2.1 q.2.2.1 q.2.2.2 a1 a2 false _ HH.out))).mono ?_; rintro e w1 ⟨rfl, hb1⟩)
      exact ⟨keeps_below hb1, hb1.mono h5, boxc_below h1 hb1, boxc_below h2 hb1, boxc_below h3 hb1, below_call h4 hb1, Nat.le_trans h5 hb1.size, by rw [List.find?_append, HI.out]; simp [HQ.out]⟩
    | true =>
      gi_wp2_with (gi_at_call 17; refine (CallsIn.inRound l (callsIn_wide.2 (cell_Has.calls q.2.1 q.2.2.1 q.2.2.2 a1 a2 true _ HH.out))).mono ?_; rintro e w1 ⟨rfl, hb1⟩; have c6 := boxc_cell (boxc_below h3 hb1) 0; have c7 := boxc_frozen (boxc_below h3 hb1) 0)
      exact ⟨(keeps_below hb1).trans ((KeepsOthers.setCell _ _ _).from _), rfl, q, by rw [List.find?_append, HI.out]; simp [HQ.out], by simpa using blk_set (boxc_below h3 hb1) 0 (.int .i64 q.1), (below_call h4 hb1).setCell (by simp; omega) _⟩
  case done =>
    rintro D ys W hD rfl ⟨h1, h2, h3, h4, h5, h6⟩ hK
    have c3 := boxc_cell h3 0
    have h := H.out
    rw [h6] at h
    simp only [Prod.mk.injEq] at h
    obtain ⟨rfl, rfl⟩ := h
    clear H h6
    gi_wp2_with fail
    rw [Exit.noGoto_ret]
    refine ⟨by simp, .inl ⟨_, _, rfl, run_takeDeferred hK, ?_⟩⟩
    exact ⟨.tuple #[.int .i64 0, .int .i64 2], by simp [results, Try.results23, go_sem], rfl, h4.trans (belowK_b (w := w) (Nat.le_refl _) W D _ _ (by omega) hK rfl rfl)⟩
  case stop =>
    rintro D c pre W hD hpre ⟨rfl, q, h2, h3, h4⟩ hK
    have c3 := boxc_cell h3 0
    have hf : (qList a0_0 a0_1 a0_2).find? (qHas a1 a2) = some q := by
      obtain ⟨t, ht⟩ := hpre
      rw [← ht, List.find?_append, h2]; rfl
    have hq0 : 0 ≤ q.1 := qList_pos (List.mem_of_find?_eq_some hf)
    have h := H.out
    rw [hf] at h
    simp only [Prod.mk.injEq] at h
    obtain ⟨h, rfl⟩ := h
    have hr : r1 = q.1 := h.symm
    have HE := Aside0.mk hr
    clear h H h2 hf hr
    gi_wp2_with fail
    rw [Exit.noGoto_ret]
    refine ⟨by simp, .inl ⟨_, _, rfl, run_takeDeferred hK, ?_⟩⟩
    exact ⟨.tuple #[.int .i64 q.1, .int .i64 0], by simp [results, Try.results23, go_sem], by rw [HE.out], h4.trans (belowK_b (w := w) (Nat.le_refl _) W D _ _ (by omega) hK rfl rfl)⟩


/-! ### cell_gap: function 40 -/
def cell_gap.f (a0 : Int) (a1 : Int) (a2 : Int) : Option (Int) := if a0 < a1 then (some ((a1 - a0) % 4294967296)) else (if a0 > a2 then (some ((a0 - a2) % 4294967296)) else (some 0))
set_option maxHeartbeats 8000000 in
set_option maxRecDepth 100000 in
theorem cell_gap.calls (a0 : Int) (a1 : Int) (a2 : Int) (r : Int) (w : World) (h : cell_gap.f a0 a1 a2 = some r) :
    Calls Try.prog 40 #[.int .u32 a0, .int .u32 a1, .int .u32 a2] w fun e w' => e = .returned (.int .u64 r) ∧ Drawn0 w w' := by
  have H : (if a0 < a1 then (some ((a1 - a0) % 4294967296)) else (if a0 > a2 then (some ((a0 - a2) % 4294967296)) else (some 0))) = some r := h
  clear h
  by_cases c4 : a0 < a1
  · rw [if_pos c4] at H
    have c4b0 : decide (a0 < a1) = true := decide_eq_true c4
    clear c4
    obtain rfl := Option.some.inj H
    go_enter Try.func40, Try.ntmps40
    go_wp2
    go_ret
    exact ⟨by first | rfl | (simp; done) | (simp [*]; done), by repeat (first | exact Drawn0.refl _ | apply Drawn0.step)⟩
  · rw [if_neg c4] at H
    have c4b0 : decide (a0 < a1) = false := decide_eq_false c4
    clear c4
    by_cases c5 : a0 > a2
    · rw [if_pos c5] at H
      have c5b0 : decide (a2 < a0) = true := decide_eq_true c5
      clear c5
      obtain rfl := Option.some.inj H
      go_enter Try.func40, Try.ntmps40
      go_wp2
      go_ret
      exact ⟨by first | rfl | (simp; done) | (simp [*]; done), by repeat (first | exact Drawn0.refl _ | apply Drawn0.step)⟩
    · rw [if_neg c5] at H
      have c5b0 : decide (a2 < a0) = false := decide_eq_false c5
      clear c5
      obtain rfl := Option.some.inj H
      go_enter Try.func40, Try.ntmps40
      go_wp2
      go_ret
      exact ⟨by first | rfl | (simp; done) | (simp [*]; done), by repeat (first | exact Drawn0.refl _ | apply Drawn0.step)⟩

/-! ### cell_Far: function 24 -/
def cell_Far.j0 : Nat → Int → Int → Bool → Int → Int → Int → Option (Int × Int)
  | 0, _, _, _, _, _, _ => none
  | k + 1, x1, x2, x19, x125000, x125001, x125002 => if x19 = true then (some (0, 2)) else ((cell_all.f x125000 x125001 x125002).bind fun bt126 => ((cell_gap.f x1 bt126.1 bt126.2.2.1).bind fun t131 => ((cell_gap.f x2 bt126.2.1 bt126.2.2.2).bind fun t132 => (some (IntKind.u64.wrap ((IntKind.u64.wrap (t131 * t131)) + (IntKind.u64.wrap (t132 * t132))), 0)))))
def cell_Far.f (k : Nat) (a0_0 : Int) (a0_1 : Int) (a0_2 : Int) (a1 : Int) (a2 : Int) : Option (Int × Int) := (cell_Right.f a0_0 a0_1 a0_2).bind fun t125 => (if t125 = true then (cell_Far.j0 k a1 a2 (decide ((mx a1 a2) ≥ 2147483648)) a0_0 a0_1 a0_2) else (cell_Far.j0 k a1 a2 true a0_0 a0_1 a0_2))
theorem cell_Far.mono_l : ∀ k, (∀ y0 y1 y2 y3 y4 y5, LeO (cell_Far.j0 k y0 y1 y2 y3 y4 y5) (cell_Far.j0 (k + 1) y0 y1 y2 y3 y4 y5))
  | 0 => fun _ _ _ _ _ _ r h => by simp [cell_Far.j0] at h
  | k + 1 => by
    have ih0 := cell_Far.mono_l k
    · intro y0 y1 y2 y3 y4 y5
      unfold cell_Far.j0
      repeat' first
      | (with_reducible exact ih0 _ _ _ _ _ _)
      | (with_reducible exact LeO.refl _)
      | (with_reducible exact LeO.none _)
      | (with_reducible refine LeO.ite ?_ ?_)
      | (with_reducible refine LeO.bind ?_ (fun _ => ?_))
      | exact ih0 _ _ _ _ _ _
      | exact LeO.none _
      | refine LeO.ite ?_ ?_
      | refine LeO.bind ?_ (fun _ => ?_)
theorem cell_Far.mono : ∀ a0 a1 a2 a3 a4 k, LeO (cell_Far.f k a0 a1 a2 a3 a4) (cell_Far.f (k + 1) a0 a1 a2 a3 a4) := by
  intro a0 a1 a2 a3 a4 k
  have ih0 := cell_Far.mono_l k
  unfold cell_Far.f
  repeat' first
      | (with_reducible exact ih0 _ _ _ _ _ _)
      | (with_reducible exact LeO.refl _)
      | (with_reducible exact LeO.none _)
      | (with_reducible refine LeO.ite ?_ ?_)
      | (with_reducible refine LeO.bind ?_ (fun _ => ?_))
      | exact ih0 _ _ _ _ _ _
      | exact LeO.none _
      | refine LeO.ite ?_ ?_
      | refine LeO.bind ?_ (fun _ => ?_)
set_option maxHeartbeats 8000000 in
set_option maxRecDepth 100000 in
theorem cell_Far.calls (k : Nat) (a0_0 : Int) (a0_1 : Int) (a0_2 : Int) (a1 : Int) (a2 : Int) (r1 : Int) (r2 : Int) (w : World) (h : cell_Far.f k a0_0 a0_1 a0_2 a1 a2 = some (r1, r2)) :
    Calls Try.prog 24 #[.agg #[.int .u32 a0_0, .int .u32 a0_1, .int .i64 a0_2], .int .u32 a1, .int .u32 a2] w fun e w' => e = .returned (.tuple #[.int .u64 r1, .int .i64 r2]) ∧ Below w.heap.size w w' := by
  have hu24 := Try.underlying24
  have hu26 := Try.underlying26
  have HB := Aside0.mk (Below.refl w.heap.size w)
  have H : ((cell_Right.f a0_0 a0_1 a0_2).bind fun t125 => (if t125 = true then (cell_Far.j0 k a1 a2 (decide ((mx a1 a2) ≥ 2147483648)) a0_0 a0_1 a0_2) else (cell_Far.j0 k a1 a2 true a0_0 a0_1 a0_2))) = some (r1, r2) := h
  clear h
  have HC4 := Aside0.mk H
  clear H
  go_enter Try.func24, Try.ntmps24
  go_upto_region 1 with (first | ((with_reducible refine gate_dst (N := 3) rfl ?_); (try (refine gate_guard (by rfl) ?_; dsimp only)); refine box_event ?hg (N := 3) ?hd (cs := #[.int .u32 a0_0, .int .u32 a0_1, .int .i64 a0_2]) (t := 24) ?hr ?_; (case hd => rfl); (case hg => rfl); (case hr => first | (go_simp; done) | (go_simp; rfl)); intro gb124 hg w5 hbox hb; have n0_ := Aside0.mk (below_step (by repeat (first | (with_reducible first | exact HB.out | apply below_alloc | apply pw_below_drewN | apply below_drew1) | exact HB.out)) hb); have n1_ := Aside0.mk (hbox); have n2_ := Aside0.mk ((by rw [hg]; exact (below_size (by repeat (first | (with_reducible first | exact HB.out | apply below_alloc | apply pw_below_drewN | apply below_drew1) | exact HB.out))) : w.heap.size ≤ gb124)); have n3_ := Aside0.mk ((by rw [hg]; exact (below_size (by repeat (first | (with_reducible first | exact HB.out | apply below_alloc | apply pw_below_drewN | apply below_drew1) | exact HB.out))) : w.heap.size ≤ gb124)); clear HB; have HB := n0_; have BK124 := n1_; have GW124 := n2_; have GE124 := n3_; clear n0_ n1_ n2_ n3_; clear hb hbox hg))
  repeat (go_quiet (first | ((with_reducible refine gate_dst (N := 3) rfl ?_); (try (refine gate_guard (by rfl) ?_; dsimp only)); refine box_event ?hg (N := 3) ?hd (cs := #[.int .u32 a0_0, .int .u32 a0_1, .int .i64 a0_2]) (t := 24) ?hr ?_; (case hd => rfl); (case hg => rfl); (case hr => first | (go_simp; done) | (go_simp; rfl)); intro gb124 hg w5 hbox hb; have n0_ := Aside0.mk (below_step (by repeat (first | (with_reducible first | exact HB.out | apply below_alloc | apply pw_below_drewN | apply below_drew1) | exact HB.out)) hb); have n1_ := Aside0.mk (hbox); have n2_ := Aside0.mk ((by rw [hg]; exact (below_size (by repeat (first | (with_reducible first | exact HB.out | apply below_alloc | apply pw_below_drewN | apply below_drew1) | exact HB.out))) : w.heap.size ≤ gb124)); have n3_ := Aside0.mk ((by rw [hg]; exact (below_size (by repeat (first | (with_reducible first | exact HB.out | apply below_alloc | apply pw_below_drewN | apply below_drew1) | exact HB.out))) : w.heap.size ≤ gb124)); clear HB; have HB := n0_; have BK124 := n1_; have GW124 := n2_; have GE124 := n3_; clear n0_ n1_ n2_ n3_; clear hb hbox hg)); go_upto_region 1 with (first | ((with_reducible refine gate_dst (N := 3) rfl ?_); (try (refine gate_guard (by rfl) ?_; dsimp only)); refine box_event ?hg (N := 3) ?hd (cs := #[.int .u32 a0_0, .int .u32 a0_1, .int .i64 a0_2]) (t := 24) ?hr ?_; (case hd => rfl); (case hg => rfl); (case hr => first | (go_simp; done) | (go_simp; rfl)); intro gb124 hg w5 hbox hb; have n0_ := Aside0.mk (below_step (by repeat (first | (with_reducible first | exact HB.out | apply below_alloc | apply pw_below_drewN | apply below_drew1) | exact HB.out)) hb); have n1_ := Aside0.mk (hbox); have n2_ := Aside0.mk ((by rw [hg]; exact (below_size (by repeat (first | (with_reducible first | exact HB.out | apply below_alloc | apply pw_below_drewN | apply below_drew1) | exact HB.out))) : w.heap.size ≤ gb124)); have n3_ := Aside0.mk ((by rw [hg]; exact (below_size (by repeat (first | (with_reducible first | exact HB.out | apply below_alloc | apply pw_below_drewN | apply below_drew1) | exact HB.out))) : w.heap.size ≤ gb124)); clear HB; have HB := n0_; have BK124 := n1_; have GW124 := n2_; have GE124 := n3_; clear n0_ n1_ n2_ n3_; clear hb hbox hg)))
  (try simp only [Act.put, List.setIfInBounds_toArray, List.set_cons_zero, List.set_cons_succ])
  go_cut [19] (fun v19 wc => ∃ (kq : Nat) (x19_3 : Bool), v19 = .bool x19_3 ∧ Aside0 (cell_Far.j0 kq a1 a2 x19_3 a0_0 a0_1 a0_2 = some (r1, r2)) ∧ Aside0 (kq ≤ k) ∧ Aside0 (wc.heap[gb124]? = some (.cells #[.int .u32 a0_0, .int .u32 a0_1, .int .i64 a0_2] 24 (0, 0))) ∧ Aside0 (Below w.heap.size w wc))
  case first =>
    have H := HC4.out
    clear HC4
    replace H := Option.bind_eq_some_iff.mp H
    obtain ⟨t125, A60, H⟩ := H
    replace H : (if t125 = true then (cell_Far.j0 k a1 a2 (decide ((mx a1 a2) ≥ 2147483648)) a0_0 a0_1 a0_2) else (cell_Far.j0 k a1 a2 true a0_0 a0_1 a0_2)) = some (r1, r2) := H
    have A6 := Aside0.mk A60
    clear A60
    by_cases c7 : t125 = true
    · subst c7
      have H1 : (cell_Far.j0 k a1 a2 (decide ((mx a1 a2) ≥ 2147483648)) a0_0 a0_1 a0_2) = some (r1, r2) := by rw [if_pos rfl] at H; exact H
      clear H
      have H := H1
      clear H1
      obtain ⟨ji8, hji8⟩ : ∃ j_ : Int, (mx a1 a2) = j_ := ⟨_, rfl⟩
      replace H : (cell_Far.j0 k a1 a2 (decide ((ji8) ≥ 2147483648)) a0_0 a0_1 a0_2) = some (r1, r2) := by first | (rw [hji8] at H; exact H) | (simp only [hji8] at H ⊢; exact H)
      (try rw [hji8] at A6)
      have hji8_ : (if a1 < a2 then a2 else a1) = ji8 := hji8
      have H' := Aside0.mk H
      clear H
      have hcz9_0 : w5.cell? ⟨gb124, 0, none⟩ = some (.int .u32 a0_0) := (blk_cell BK124.out 0).trans rfl
      have hcz9_1 : w5.cell? ⟨gb124, 1, none⟩ = some (.int .u32 a0_1) := (blk_cell BK124.out 1).trans rfl
      have hcz9_2 : w5.cell? ⟨gb124, 2, none⟩ = some (.int .i64 a0_2) := (blk_cell BK124.out 2).trans rfl
      have hfz9_0 := blk_frozen BK124.out 0
      have hfz9_1 := blk_frozen BK124.out 1
      have hfz9_2 := blk_frozen BK124.out 2
      go_wp2_with (first | (go_at_call 13; (with_reducible refine (cell_Right.calls a0_0 a0_1 a0_2 true _ A6.out).mono ?_); rintro e w10 ⟨rfl, hb⟩; have n0_ := Aside0.mk (blk_below (g := gb124) (o := .cells #[.int .u32 a0_0, .int .u32 a0_1, .int .i64 a0_2] 24 (0, 0)) (by (with_reducible repeat (first | refine blk_drewN ?_ _ | refine blk_drew ?_ | refine blk_alloc ?_ _)); exact BK124.out) hb); have n1_ := Aside0.mk (below_step (by repeat (first | (with_reducible first | exact HB.out | apply below_alloc | apply pw_below_drewN | apply below_drew1 | refine below_set ?_ GE124.out) | exact HB.out)) hb); clear BK124; clear HB; have BK124 := n0_; have HB := n1_; clear n0_ n1_; (try clear hb); (try clear hb2); (try clear hk); (try clear hi)))
      repeat (go_quiet (first | (go_at_call 13; (with_reducible refine (cell_Right.calls a0_0 a0_1 a0_2 true _ A6.out).mono ?_); rintro e w10 ⟨rfl, hb⟩; have n0_ := Aside0.mk (blk_below (g := gb124) (o := .cells #[.int .u32 a0_0, .int .u32 a0_1, .int .i64 a0_2] 24 (0, 0)) (by (with_reducible repeat (first | refine blk_drewN ?_ _ | refine blk_drew ?_ | refine blk_alloc ?_ _)); exact BK124.out) hb); have n1_ := Aside0.mk (below_step (by repeat (first | (with_reducible first | exact HB.out | apply below_alloc | apply pw_below_drewN | apply below_drew1 | refine below_set ?_ GE124.out) | exact HB.out)) hb); clear BK124; clear HB; have BK124 := n0_; have HB := n1_; clear n0_ n1_; (try clear hb); (try clear hb2); (try clear hk); (try clear hi))); try go_wp2_with (first | (go_at_call 13; (with_reducible refine (cell_Right.calls a0_0 a0_1 a0_2 true _ A6.out).mono ?_); rintro e w10 ⟨rfl, hb⟩; have n0_ := Aside0.mk (blk_below (g := gb124) (o := .cells #[.int .u32 a0_0, .int .u32 a0_1, .int .i64 a0_2] 24 (0, 0)) (by (with_reducible repeat (first | refine blk_drewN ?_ _ | refine blk_drew ?_ | refine blk_alloc ?_ _)); exact BK124.out) hb); have n1_ := Aside0.mk (below_step (by repeat (first | (with_reducible first | exact HB.out | apply below_alloc | apply pw_below_drewN | apply below_drew1 | refine below_set ?_ GE124.out) | exact HB.out)) hb); clear BK124; clear HB; have BK124 := n0_; have HB := n1_; clear n0_ n1_; (try clear hb); (try clear hb2); (try clear hk); (try clear hi))))
      go_meet
      case rel => exact ⟨_, (decide ((ji8) ≥ 2147483648)), (by first | rfl | (simp; done) | (simp only [← hji8] <;> (first | rfl | simp)) | (simp [*]; done)), H', ⟨by first | omega | exact Nat.le_refl _⟩, ⟨by (with_reducible repeat (first | refine blk_drewN ?_ _ | refine blk_drew ?_ | refine blk_alloc ?_ _)); exact BK124.out⟩, ⟨by repeat (first | (with_reducible first | exact HB.out | apply below_alloc | apply pw_below_drewN | apply below_drew1 | refine below_set ?_ GE124.out) | exact HB.out)⟩⟩
    · replace c7 := Bool.eq_false_iff.mpr c7
      subst c7
      have H1 : (cell_Far.j0 k a1 a2 true a0_0 a0_1 a0_2) = some (r1, r2) := by rw [if_neg (show ¬ (false = true) by decide)] at H; exact H
      clear H
      have H := H1
      clear H1
      have H' := Aside0.mk H
      clear H
      have hcz11_0 : w5.cell? ⟨gb124, 0, none⟩ = some (.int .u32 a0_0) := (blk_cell BK124.out 0).trans rfl
      have hcz11_1 : w5.cell? ⟨gb124, 1, none⟩ = some (.int .u32 a0_1) := (blk_cell BK124.out 1).trans rfl
      have hcz11_2 : w5.cell? ⟨gb124, 2, none⟩ = some (.int .i64 a0_2) := (blk_cell BK124.out 2).trans rfl
      have hfz11_0 := blk_frozen BK124.out 0
      have hfz11_1 := blk_frozen BK124.out 1
      have hfz11_2 := blk_frozen BK124.out 2
      go_wp2_with (first | (go_at_call 13; (with_reducible refine (cell_Right.calls a0_0 a0_1 a0_2 false _ A6.out).mono ?_); rintro e w12 ⟨rfl, hb⟩; have n0_ := Aside0.mk (blk_below (g := gb124) (o := .cells #[.int .u32 a0_0, .int .u32 a0_1, .int .i64 a0_2] 24 (0, 0)) (by (with_reducible repeat (first | refine blk_drewN ?_ _ | refine blk_drew ?_ | refine blk_alloc ?_ _)); exact BK124.out) hb); have n1_ := Aside0.mk (below_step (by repeat (first | (with_reducible first | exact HB.out | apply below_alloc | apply pw_below_drewN | apply below_drew1 | refine below_set ?_ GE124.out) | exact HB.out)) hb); clear BK124; clear HB; have BK124 := n0_; have HB := n1_; clear n0_ n1_; (try clear hb); (try clear hb2); (try clear hk); (try clear hi)))
      repeat (go_quiet (first | (go_at_call 13; (with_reducible refine (cell_Right.calls a0_0 a0_1 a0_2 false _ A6.out).mono ?_); rintro e w12 ⟨rfl, hb⟩; have n0_ := Aside0.mk (blk_below (g := gb124) (o := .cells #[.int .u32 a0_0, .int .u32 a0_1, .int .i64 a0_2] 24 (0, 0)) (by (with_reducible repeat (first | refine blk_drewN ?_ _ | refine blk_drew ?_ | refine blk_alloc ?_ _)); exact BK124.out) hb); have n1_ := Aside0.mk (below_step (by repeat (first | (with_reducible first | exact HB.out | apply below_alloc | apply pw_below_drewN | apply below_drew1 | refine below_set ?_ GE124.out) | exact HB.out)) hb); clear BK124; clear HB; have BK124 := n0_; have HB := n1_; clear n0_ n1_; (try clear hb); (try clear hb2); (try clear hk); (try clear hi))); try go_wp2_with (first | (go_at_call 13; (with_reducible refine (cell_Right.calls a0_0 a0_1 a0_2 false _ A6.out).mono ?_); rintro e w12 ⟨rfl, hb⟩; have n0_ := Aside0.mk (blk_below (g := gb124) (o := .cells #[.int .u32 a0_0, .int .u32 a0_1, .int .i64 a0_2] 24 (0, 0)) (by (with_reducible repeat (first | refine blk_drewN ?_ _ | refine blk_drew ?_ | refine blk_alloc ?_ _)); exact BK124.out) hb); have n1_ := Aside0.mk (below_step (by repeat (first | (with_reducible first | exact HB.out | apply below_alloc | apply pw_below_drewN | apply below_drew1 | refine below_set ?_ GE124.out) | exact HB.out)) hb); clear BK124; clear HB; have BK124 := n0_; have HB := n1_; clear n0_ n1_; (try clear hb); (try clear hb2); (try clear hk); (try clear hi))))
      go_meet
      case rel => exact ⟨_, (true), (by first | rfl | (simp; done) | (simp [*]; done)), H', ⟨by first | omega | exact Nat.le_refl _⟩, ⟨by (with_reducible repeat (first | refine blk_drewN ?_ _ | refine blk_drew ?_ | refine blk_alloc ?_ _)); exact BK124.out⟩, ⟨by repeat (first | (with_reducible first | exact HB.out | apply below_alloc | apply pw_below_drewN | apply below_drew1 | refine below_set ?_ GE124.out) | exact HB.out)⟩⟩
  case rest =>
    clear HC4
    try clear c2
    try clear p2
    try clear c7
    try clear hcz11_0
    try clear hcz11_1
    try clear hcz11_2
    try clear hcz9_0
    try clear hcz9_1
    try clear hcz9_2
    try clear hfz11_0
    try clear hfz11_1
    try clear hfz11_2
    try clear hfz9_0
    try clear hfz9_1
    try clear hfz9_2
    obtain ⟨kq, x19_3, rfl, HA, HJ3, BK124, HB⟩ := hcut
    cases kq with
    | zero => exact absurd HA.out (by simp [cell_Far.j0])
    | succ kj3 =>
      have H := HA.out
      clear HA
      simp only [cell_Far.j0] at H
      by_cases c13 : x19_3 = true
      · subst c13
        have H1 : (some (0, 2)) = some (r1, r2) := by rw [if_pos rfl] at H; exact H
        clear H
        have H := H1
        clear H1
        simp only [Option.some.injEq, Prod.mk.injEq] at H
        obtain ⟨rfl, rfl⟩ := H
        go_wp2
        repeat (go_quiet (fail); try go_wp2)
        go_ret2
        exact ⟨by first | rfl | (simp [errW_none, errW_some] <;> rfl) | (simp [*, errW_none, errW_some] <;> rfl), by repeat (first | (with_reducible first | exact HB.out | apply below_alloc | apply pw_below_drewN | apply below_drew1 | refine below_set ?_ GE124.out) | exact HB.out)⟩
      · replace c13 := Bool.eq_false_iff.mpr c13
        subst c13
        have H1 : ((cell_all.f a0_0 a0_1 a0_2).bind fun bt126 => ((cell_gap.f a1 bt126.1 bt126.2.2.1).bind fun t131 => ((cell_gap.f a2 bt126.2.1 bt126.2.2.2).bind fun t132 => (some (IntKind.u64.wrap ((IntKind.u64.wrap (t131 * t131)) + (IntKind.u64.wrap (t132 * t132))), 0))))) = some (r1, r2) := by rw [if_neg (show ¬ (false = true) by decide)] at H; exact H
        clear H
        have H := H1
        clear H1
        replace H := Option.bind_eq_some_iff.mp H
        obtain ⟨⟨t126, t127, t128, t129⟩, A140, H⟩ := H
        replace H : ((cell_gap.f a1 t126 t128).bind fun t131 => ((cell_gap.f a2 t127 t129).bind fun t132 => (some (IntKind.u64.wrap ((IntKind.u64.wrap (t131 * t131)) + (IntKind.u64.wrap (t132 * t132))), 0)))) = some (r1, r2) := H
        have A14 := Aside0.mk A140
        clear A140
        replace H := Option.bind_eq_some_iff.mp H
        obtain ⟨t131, A150, H⟩ := H
        replace H : ((cell_gap.f a2 t127 t129).bind fun t132 => (some (IntKind.u64.wrap ((IntKind.u64.wrap (t131 * t131)) + (IntKind.u64.wrap (t132 * t132))), 0))) = some (r1, r2) := H
        have A15 := Aside0.mk A150
        clear A150
        replace H := Option.bind_eq_some_iff.mp H
        obtain ⟨t132, A160, H⟩ := H
        replace H : (some (IntKind.u64.wrap ((IntKind.u64.wrap (t131 * t131)) + (IntKind.u64.wrap (t132 * t132))), 0)) = some (r1, r2) := H
        have A16 := Aside0.mk A160
        clear A160
        simp only [Option.some.injEq, Prod.mk.injEq] at H
        obtain ⟨rfl, rfl⟩ := H
        have hcz17_0 : wc.cell? ⟨gb124, 0, none⟩ = some (.int .u32 a0_0) := (blk_cell BK124.out 0).trans rfl
        have hcz17_1 : wc.cell? ⟨gb124, 1, none⟩ = some (.int .u32 a0_1) := (blk_cell BK124.out 1).trans rfl
        have hcz17_2 : wc.cell? ⟨gb124, 2, none⟩ = some (.int .i64 a0_2) := (blk_cell BK124.out 2).trans rfl
        have hfz17_0 := blk_frozen BK124.out 0
        have hfz17_1 := blk_frozen BK124.out 1
        have hfz17_2 := blk_frozen BK124.out 2
        go_wp2_with (first | (go_at_call 36; (with_reducible refine (cell_all.calls a0_0 a0_1 a0_2 t126 t127 t128 t129 _ A14.out).mono ?_); rintro e w18 ⟨rfl, hb⟩; have n0_ := Aside0.mk (blk_below (g := gb124) (o := .cells #[.int .u32 a0_0, .int .u32 a0_1, .int .i64 a0_2] 24 (0, 0)) (by (with_reducible repeat (first | refine blk_drewN ?_ _ | refine blk_drew ?_ | refine blk_alloc ?_ _)); exact BK124.out) hb); have n1_ := Aside0.mk (below_step (by repeat (first | (with_reducible first | exact HB.out | apply below_alloc | apply pw_below_drewN | apply below_drew1 | refine below_set ?_ GE124.out) | exact HB.out)) hb); clear BK124; clear HB; have BK124 := n0_; have HB := n1_; clear n0_ n1_; (try clear hb); (try clear hb2); (try clear hk); (try clear hi)) | ((with_reducible refine gate_dst (N := 8) rfl ?_); (try (refine gate_guard (by rfl) ?_; dsimp only)); refine box_event ?hg (N := 8) ?hd (cs := #[.int .u32 0, .int .u32 0, .int .u32 0, .int .u32 0]) (t := 26) ?hr ?_; (case hd => rfl); (case hg => rfl); (case hr => first | (go_simp; done) | (go_simp; rfl)); intro gb130 hg w19 hbox hb; have n0_ := Aside0.mk (blk_below (g := gb124) (o := .cells #[.int .u32 a0_0, .int .u32 a0_1, .int .i64 a0_2] 24 (0, 0)) (by (with_reducible repeat (first | refine blk_drewN ?_ _ | refine blk_drew ?_ | refine blk_alloc ?_ _)); exact BK124.out) hb); have n1_ := Aside0.mk (below_step (by repeat (first | (with_reducible first | exact HB.out | apply below_alloc | apply pw_below_drewN | apply below_drew1 | refine below_set ?_ GE124.out) | exact HB.out)) hb); have n2_ := Aside0.mk (hbox); have n3_ := Aside0.mk ((by rw [hg]; exact (below_size (by repeat (first | (with_reducible first | exact HB.out | apply below_alloc | apply pw_below_drewN | apply below_drew1 | refine below_set ?_ GE124.out) | exact HB.out))) : w.heap.size ≤ gb130)); have n4_ := Aside0.mk ((by rw [hg]; exact (below_size (by repeat (first | (with_reducible first | exact HB.out | apply below_alloc | apply pw_below_drewN | apply below_drew1 | refine below_set ?_ GE124.out) | exact HB.out))) : w.heap.size ≤ gb130)); have n5_ := Aside0.mk ((by rw [hg]; exact Nat.ne_of_lt (blk_lt (g := gb124) (o := .cells #[.int .u32 a0_0, .int .u32 a0_1, .int .i64 a0_2] 24 (0, 0)) (by (with_reducible repeat (first | refine blk_drewN ?_ _ | refine blk_drew ?_ | refine blk_alloc ?_ _)); exact BK124.out)) : gb124 ≠ gb130)); have n6_ := Aside0.mk ((by rw [hg]; exact Nat.ne_of_gt (blk_lt (g := gb124) (o := .cells #[.int .u32 a0_0, .int .u32 a0_1, .int .i64 a0_2] 24 (0, 0)) (by (with_reducible repeat (first | refine blk_drewN ?_ _ | refine blk_drew ?_ | refine blk_alloc ?_ _)); exact BK124.out)) : gb130 ≠ gb124)); clear BK124; clear HB; have BK124 := n0_; have HB := n1_; have BK130 := n2_; have GW130 := n3_; have GE130 := n4_; have NB124_130 := n5_; have NB130_124 := n6_; clear n0_ n1_ n2_ n3_ n4_ n5_ n6_; clear hb hbox hg; have hnb20 := NB130_124.out; have hnc20 := NB124_130.out; have hcz21_0 : w19.cell? ⟨gb130, 0, none⟩ = some (.int .u32 0) := (blk_cell BK130.out 0).trans rfl; have hcz21_1 : w19.cell? ⟨gb130, 1, none⟩ = some (.int .u32 0) := (blk_cell BK130.out 1).trans rfl; have hcz21_2 : w19.cell? ⟨gb130, 2, none⟩ = some (.int .u32 0) := (blk_cell BK130.out 2).trans rfl; have hcz21_3 : w19.cell? ⟨gb130, 3, none⟩ = some (.int .u32 0) := (blk_cell BK130.out 3).trans rfl; have hfz21_0 := blk_frozen BK130.out 0; have hfz21_1 := blk_frozen BK130.out 1; have hfz21_2 := blk_frozen BK130.out 2; have hfz21_3 := blk_frozen BK130.out 3) | (go_at_call 40; (with_reducible refine (cell_gap.calls a1 t126 t128 t131 _ A15.out).mono ?_); rintro e w' ⟨rfl, ⟨nd, rfl⟩⟩; (try first | exact ⟨rfl, _, World.drewN_drewN _ _ _⟩ | exact ⟨rfl, _, Eq.trans (World.drewN_drewN _ _ _) (congrArg (World.drewN _) (Nat.add_assoc _ _ _))⟩)) | (go_at_call 40; (with_reducible refine (cell_gap.calls a2 t127 t129 t132 _ A16.out).mono ?_); rintro e w' ⟨rfl, ⟨nd, rfl⟩⟩; (try first | exact ⟨rfl, _, World.drewN_drewN _ _ _⟩ | exact ⟨rfl, _, Eq.trans (World.drewN_drewN _ _ _) (congrArg (World.drewN _) (Nat.add_assoc _ _ _))⟩)))
        repeat (go_quiet (first | (go_at_call 36; (with_reducible refine (cell_all.calls a0_0 a0_1 a0_2 t126 t127 t128 t129 _ A14.out).mono ?_); rintro e w18 ⟨rfl, hb⟩; have n0_ := Aside0.mk (blk_below (g := gb124) (o := .cells #[.int .u32 a0_0, .int .u32 a0_1, .int .i64 a0_2] 24 (0, 0)) (by (with_reducible repeat (first | refine blk_drewN ?_ _ | refine blk_drew ?_ | refine blk_alloc ?_ _)); exact BK124.out) hb); have n1_ := Aside0.mk (below_step (by repeat (first | (with_reducible first | exact HB.out | apply below_alloc | apply pw_below_drewN | apply below_drew1 | refine below_set ?_ GE124.out) | exact HB.out)) hb); clear BK124; clear HB; have BK124 := n0_; have HB := n1_; clear n0_ n1_; (try clear hb); (try clear hb2); (try clear hk); (try clear hi)) | ((with_reducible refine gate_dst (N := 8) rfl ?_); (try (refine gate_guard (by rfl) ?_; dsimp only)); refine box_event ?hg (N := 8) ?hd (cs := #[.int .u32 0, .int .u32 0, .int .u32 0, .int .u32 0]) (t := 26) ?hr ?_; (case hd => rfl); (case hg => rfl); (case hr => first | (go_simp; done) | (go_simp; rfl)); intro gb130 hg w19 hbox hb; have n0_ := Aside0.mk (blk_below (g := gb124) (o := .cells #[.int .u32 a0_0, .int .u32 a0_1, .int .i64 a0_2] 24 (0, 0)) (by (with_reducible repeat (first | refine blk_drewN ?_ _ | refine blk_drew ?_ | refine blk_alloc ?_ _)); exact BK124.out) hb); have n1_ := Aside0.mk (below_step (by repeat (first | (with_reducible first | exact HB.out | apply below_alloc | apply pw_below_drewN | apply below_drew1 | refine below_set ?_ GE124.out) | exact HB.out)) hb); have n2_ := Aside0.mk (hbox); have n3_ := Aside0.mk ((by rw [hg]; exact (below_size (by repeat (first | (with_reducible first | exact HB.out | apply below_alloc | apply pw_below_drewN | apply below_drew1 | refine below_set ?_ GE124.out) | exact HB.out))) : w.heap.size ≤ gb130)); have n4_ := Aside0.mk ((by rw [hg]; exact (below_size (by repeat (first | (with_reducible first | exact HB.out | apply below_alloc | apply pw_below_drewN | apply below_drew1 | refine below_set ?_ GE124.out) | exact HB.out))) : w.heap.size ≤ gb130)); have n5_ := Aside0.mk ((by rw [hg]; exact Nat.ne_of_lt (blk_lt (g := gb124) (o := .cells #[.int .u32 a0_0, .int .u32 a0_1, .int .i64 a0_2] 24 (0, 0)) (by (with_reducible repeat (first | refine blk_drewN ?_ _ | refine blk_drew ?_ | refine blk_alloc ?_ _)); exact BK124.out)) : gb124 ≠ gb130)); have n6_ := Aside0.mk ((by rw [hg]; exact Nat.ne_of_gt (blk_lt (g := gb124) (o := .cells #[.int .u32 a0_0, .int .u32 a0_1, .int .i64 a0_2] 24 (0, 0)) (by (with_reducible repeat (first | refine blk_drewN ?_ _ | refine blk_drew ?_ | refine blk_alloc ?_ _)); exact BK124.out)) : gb130 ≠ gb124)); clear BK124; clear HB; have BK124 := n0_; have HB := n1_; have BK130 := n2_; have GW130 := n3_; have GE130 := n4_; have NB124_130 := n5_; have NB130_124 := n6_; clear n0_ n1_ n2_ n3_ n4_ n5_ n6_; clear hb hbox hg; have hnb20 := NB130_124.out; have hnc20 := NB124_130.out; have hcz21_0 : w19.cell? ⟨gb130, 0, none⟩ = some (.int .u32 0) := (blk_cell BK130.out 0).trans rfl; have hcz21_1 : w19.cell? ⟨gb130, 1, none⟩ = some (.int .u32 0) := (blk_cell BK130.out 1).trans rfl; have hcz21_2 : w19.cell? ⟨gb130, 2, none⟩ = some (.int .u32 0) := (blk_cell BK130.out 2).trans rfl; have hcz21_3 : w19.cell? ⟨gb130, 3, none⟩ = some (.int .u32 0) := (blk_cell BK130.out 3).trans rfl; have hfz21_0 := blk_frozen BK130.out 0; have hfz21_1 := blk_frozen BK130.out 1; have hfz21_2 := blk_frozen BK130.out 2; have hfz21_3 := blk_frozen BK130.out 3) | (go_at_call 40; (with_reducible refine (cell_gap.calls a1 t126 t128 t131 _ A15.out).mono ?_); rintro e w' ⟨rfl, ⟨nd, rfl⟩⟩; (try first | exact ⟨rfl, _, World.drewN_drewN _ _ _⟩ | exact ⟨rfl, _, Eq.trans (World.drewN_drewN _ _ _) (congrArg (World.drewN _) (Nat.add_assoc _ _ _))⟩)) | (go_at_call 40; (with_reducible refine (cell_gap.calls a2 t127 t129 t132 _ A16.out).mono ?_); rintro e w' ⟨rfl, ⟨nd, rfl⟩⟩; (try first | exact ⟨rfl, _, World.drewN_drewN _ _ _⟩ | exact ⟨rfl, _, Eq.trans (World.drewN_drewN _ _ _) (congrArg (World.drewN _) (Nat.add_assoc _ _ _))⟩))); try go_wp2_with (first | (go_at_call 36; (with_reducible refine (cell_all.calls a0_0 a0_1 a0_2 t126 t127 t128 t129 _ A14.out).mono ?_); rintro e w18 ⟨rfl, hb⟩; have n0_ := Aside0.mk (blk_below (g := gb124) (o := .cells #[.int .u32 a0_0, .int .u32 a0_1, .int .i64 a0_2] 24 (0, 0)) (by (with_reducible repeat (first | refine blk_drewN ?_ _ | refine blk_drew ?_ | refine blk_alloc ?_ _)); exact BK124.out) hb); have n1_ := Aside0.mk (below_step (by repeat (first | (with_reducible first | exact HB.out | apply below_alloc | apply pw_below_drewN | apply below_drew1 | refine below_set ?_ GE124.out) | exact HB.out)) hb); clear BK124; clear HB; have BK124 := n0_; have HB := n1_; clear n0_ n1_; (try clear hb); (try clear hb2); (try clear hk); (try clear hi)) | ((with_reducible refine gate_dst (N := 8) rfl ?_); (try (refine gate_guard (by rfl) ?_; dsimp only)); refine box_event ?hg (N := 8) ?hd (cs := #[.int .u32 0, .int .u32 0, .int .u32 0, .int .u32 0]) (t := 26) ?hr ?_; (case hd => rfl); (case hg => rfl); (case hr => first | (go_simp; done) | (go_simp; rfl)); intro gb130 hg w19 hbox hb; have n0_ := Aside0.mk (blk_below (g := gb124) (o := .cells #[.int .u32 a0_0, .int .u32 a0_1, .int .i64 a0_2] 24 (0, 0)) (by (with_reducible repeat (first | refine blk_drewN ?_ _ | refine blk_drew ?_ | refine blk_alloc ?_ _)); exact BK124.out) hb); have n1_ := Aside0.mk (below_step (by repeat (first | (with_reducible first | exact HB.out | apply below_alloc | apply pw_below_drewN | apply below_drew1 | refine below_set ?_ GE124.out) | exact HB.out)) hb); have n2_ := Aside0.mk (hbox); have n3_ := Aside0.mk ((by rw [hg]; exact (below_size (by repeat (first | (with_reducible first | exact HB.out | apply below_alloc | apply pw_below_drewN | apply below_drew1 | refine below_set ?_ GE124.out) | exact HB.out))) : w.heap.size ≤ gb130)); have n4_ := Aside0.mk ((by rw [hg]; exact (below_size (by repeat (first | (with_reducible first | exact HB.out | apply below_alloc | apply pw_below_drewN | apply below_drew1 | refine below_set ?_ GE124.out) | exact HB.out))) : w.heap.size ≤ gb130)); have n5_ := Aside0.mk ((by rw [hg]; exact Nat.ne_of_lt (blk_lt (g := gb124) (o := .cells #[.int .u32 a0_0, .int .u32 a0_1, .int .i64 a0_2] 24 (0, 0)) (by (with_reducible repeat (first | refine blk_drewN ?_ _ | refine blk_drew ?_ | refine blk_alloc ?_ _)); exact BK124.out)) : gb124 ≠ gb130)); have n6_ := Aside0.mk ((by rw [hg]; exact Nat.ne_of_gt (blk_lt (g := gb124) (o := .cells #[.int .u32 a0_0, .int .u32 a0_1, .int .i64 a0_2] 24 (0, 0)) (by (with_reducible repeat (first | refine blk_drewN ?_ _ | refine blk_drew ?_ | refine blk_alloc ?_ _)); exact BK124.out)) : gb130 ≠ gb124)); clear BK124; clear HB; have BK124 := n0_; have HB := n1_; have BK130 := n2_; have GW130 := n3_; have GE130 := n4_; have NB124_130 := n5_; have NB130_124 := n6_; clear n0_ n1_ n2_ n3_ n4_ n5_ n6_; clear hb hbox hg; have hnb20 := NB130_124.out; have hnc20 := NB124_130.out; have hcz21_0 : w19.cell? ⟨gb130, 0, none⟩ = some (.int .u32 0) := (blk_cell BK130.out 0).trans rfl; have hcz21_1 : w19.cell? ⟨gb130, 1, none⟩ = some (.int .u32 0) := (blk_cell BK130.out 1).trans rfl; have hcz21_2 : w19.cell? ⟨gb130, 2, none⟩ = some (.int .u32 0) := (blk_cell BK130.out 2).trans rfl; have hcz21_3 : w19.cell? ⟨gb130, 3, none⟩ = some (.int .u32 0) := (blk_cell BK130.out 3).trans rfl; have hfz21_0 := blk_frozen BK130.out 0; have hfz21_1 := blk_frozen BK130.out 1; have hfz21_2 := blk_frozen BK130.out 2; have hfz21_3 := blk_frozen BK130.out 3) | (go_at_call 40; (with_reducible refine (cell_gap.calls a1 t126 t128 t131 _ A15.out).mono ?_); rintro e w' ⟨rfl, ⟨nd, rfl⟩⟩; (try first | exact ⟨rfl, _, World.drewN_drewN _ _ _⟩ | exact ⟨rfl, _, Eq.trans (World.drewN_drewN _ _ _) (congrArg (World.drewN _) (Nat.add_assoc _ _ _))⟩)) | (go_at_call 40; (with_reducible refine (cell_gap.calls a2 t127 t129 t132 _ A16.out).mono ?_); rintro e w' ⟨rfl, ⟨nd, rfl⟩⟩; (try first | exact ⟨rfl, _, World.drewN_drewN _ _ _⟩ | exact ⟨rfl, _, Eq.trans (World.drewN_drewN _ _ _) (congrArg (World.drewN _) (Nat.add_assoc _ _ _))⟩))))
        go_ret2
        exact ⟨by first | rfl | (simp [errW_none, errW_some] <;> rfl) | (simp [*, errW_none, errW_some] <;> rfl), by repeat (first | (with_reducible first | exact HB.out | apply below_alloc | apply pw_below_drewN | apply below_drew1 | refine below_set ?_ GE124.out | refine below_set ?_ GE130.out) | exact HB.out)⟩

end Go.Proofs.Ytnpnmbfbdnbeoaa.P

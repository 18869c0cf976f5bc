-- Laid by a program of this session: the walk of functions of the translation, for this claim.
import Derived.Test.YtoimgijhekahhaaGreatPx0
import Derived.Test.YtoimgijhekahhaaGreatPx5
import Derived.Test.YtoimgijhekahhaaGreatPx8
import Derived.Test.YtoimgijhekahhaaGreatPx801
import Derived.Test.YtoimgijhekahhaaGreatStep
import Derived.Test.YtoimgijhekahhaaGreatPx905
namespace Go.Proofs.YtoimgijhekahhaaGreat.P
open Go.RowKit Go.Proofs.YtoimgijhekahhaaGreatOwn Go.Proofs.YtoimgijhekahhaaGreatW.PrintWords Go.Proofs.YtoimgijhekahhaaGreatW.PrintLast Go.Proofs.YtoimgijhekahhaaGreatW.PrintMore
attribute [local go_sem] max2_int min2_int max_two min_two max_three min_three max_four min_four
set_option linter.unusedVariables false
set_option linter.unusedSimpArgs false
section
attribute [local go_sem] max2_int min2_int max_two min_two max_three min_three max_four min_four
theorem cell_gap.tot (x y l : Int) : ∃ r, cell_gap.f x y l = some r := by
 unfold cell_gap.f
 repeat' split
 all_goals exact ⟨_, rfl⟩
theorem cell_Far.tot (k : Nat) (x y l a b : Int) : ∃ r, cell_Far.f (k + 1) x y l a b = some r := by
 unfold cell_Far.f
 obtain ⟨t, ht⟩ := cell_Right.tot x y l
 rw [ht, Option.bind_some]
 cases t with
 | false => rw [if_neg (by simp), cell_Far.j0, if_pos rfl]; exact ⟨_, rfl⟩
 | true =>
  rw [if_pos rfl, cell_Far.j0]
  split
  ·exact ⟨_, rfl⟩
  ·obtain ⟨v, hv⟩ := cell_all.tot ht
   rw [hv, Option.bind_some]
   obtain ⟨g1, h1⟩ := cell_gap.tot a v.1 v.2.2.1
   obtain ⟨g2, h2⟩ := cell_gap.tot b v.2.1 v.2.2.2
   rw [h1, Option.bind_some, h2, Option.bind_some]
   exact ⟨_, rfl⟩
theorem quad_far.tot (k : Nat) (a b c : Int) (s : ByteArray) (x y : Int) : ∃ r, quad_far.f (k + 1) a b c s x y = some r := by
 unfold quad_far.f
 obtain ⟨v, hv⟩ := cell_Far.tot k b c 0 x y
 rw [hv, Option.bind_some]
 exact ⟨_, rfl⟩
def ovR (x y s : Int) (c : S41) : Bool := match cell_Far.f 1 c.f0 c.f1 c.f2 x y with | some d => decide (s < d.1) | none => true
def isR (x y s : Int) (r : S37) : Bool := match quad_far.f 1 r.f0 r.f1 r.f2 r.f3 x y with | some d => decide (d ≤ s) | none => false
def quad_Round.f (k : Nat) (a0_0 a0_1 a0_2 : Int) (l0_3 : List S37) (l0_4 : List S44) (a1 a2 a3 : Int) : Option (List S37 × Int) :=
 if mx a1 a2 ≥ 2147483648 then some ([], 2) else (if okT (ovR a1 a2 a3) (isR a1 a2 a3) ⟨⟨a0_0, a0_1, a0_2⟩, l0_3, l0_4⟩ then some (sortP ((rowsL (ovR a1 a2 a3) [⟨⟨a0_0, a0_1, a0_2⟩, l0_3, l0_4⟩]).filter (isR a1 a2 a3)), 0) else none)
theorem quad_Round.mono : ∀ a0 a1 a2 a3 a4 b0 b1 b2 k, LeO (quad_Round.f k a0 a1 a2 a3 a4 b0 b1 b2) (quad_Round.f (k + 1) a0 a1 a2 a3 a4 b0 b1 b2) := fun _ _ _ _ _ _ _ _ _ => LeO.refl _
set_option maxRecDepth 100000 in
set_option maxHeartbeats 4000000 in
theorem round_over {w0 : World} {g1 g2 g3 : Nat} {x y s : Int} (h1 : w0.heap[g1]? = some (.cells #[.int .u32 x] 23 (0, 0))) (h2 : w0.heap[g2]? = some (.cells #[.int .u32 y] 23 (0, 0))) (h3 : w0.heap[g3]? = some (.cells #[.int .u64 s] 26 (0, 0))) :
  OverAt Tryz.prog 52 #[.pointer (some ⟨g1, 0, none⟩), .pointer (some ⟨g2, 0, none⟩), .pointer (some ⟨g3, 0, none⟩)] w0 (ovR x y s) (fun _ => True) := by
 refine ⟨enters_of Tryz.func52 (by kernel_rfl) rfl, fun c W _ hb => ?_⟩
 obtain ⟨⟨t, e⟩, ht⟩ := cell_Far.tot 0 c.f0 c.f1 c.f2 x y
 have hov : ovR x y s c = decide (s < t) := by unfold ovR; rw [ht]
 rw [hov]
 have c1 := boxc_cell (boxc_alloc (boxc_below h1 hb) (.cells #[.int .u32 c.f0, .int .u32 c.f1, .int .i64 c.f2] 41)) 0
 have c2 := boxc_cell (boxc_alloc (boxc_below h2 hb) (.cells #[.int .u32 c.f0, .int .u32 c.f1, .int .i64 c.f2] 41)) 0
 have B3 := Aside0.mk (boxc_alloc (boxc_below h3 hb) (.cells #[.int .u32 c.f0, .int .u32 c.f1, .int .i64 c.f2] 41))
 clear hov h1 h2 h3
 go_enter Tryz.func52, Tryz.ntmps52
 go_wp2_with fail
 refine (cell_Far.calls 1 c.f0 c.f1 c.f2 x y t e _ ht).mono ?_
 rintro e w1 ⟨rfl, hb1⟩
 have c3 := boxc_cell (boxc_below B3.out hb1) 0
 go_wp2
 go_ret
 exact ⟨rfl, below_call (below_alloc' (Below.refl _ W) _) hb1⟩
def roundis_T1 : Bool × List (List Nat × List Nat) := (true, [([], []), ([], []), ([], []), ([0, 1, 2], [0, 1, 2]), ([], []), ([3, 4], [3, 4]), ([5, 3, 0, 1, 2, 3, 4, 5], [5])])
def roundis_B1 : List Nat := [0, 0, 0, 7, 0, 31, 63]
theorem roundis_tab1 : rtab .any (opsOf Tryz.f54 1) = roundis_T1 := by kernel_rfl
theorem roundis_bits1 : waitsOk roundis_T1.2 roundis_B1 = true := by kernel_rfl
set_option maxRecDepth 100000 in
set_option maxHeartbeats 4000000 in
theorem round_is {w0 : World} {g1 g2 g3 : Nat} {x y s : Int} (h1 : w0.heap[g1]? = some (.cells #[.int .u32 x] 23 (0, 0))) (h2 : w0.heap[g2]? = some (.cells #[.int .u32 y] 23 (0, 0))) (h3 : w0.heap[g3]? = some (.cells #[.int .u64 s] 26 (0, 0))) :
  IsAt Tryz.prog 54 #[.pointer (some ⟨g1, 0, none⟩), .pointer (some ⟨g2, 0, none⟩), .pointer (some ⟨g3, 0, none⟩)] w0 (isR x y s) := by
 refine ⟨enters_of Tryz.func54 (by kernel_rfl) rfl, fun c W hb => ?_⟩
 obtain ⟨t, ht⟩ := quad_far.tot 0 c.f0 c.f1 c.f2 c.f3 x y
 have hov : isR x y s c = decide (t ≤ s) := by unfold isR; rw [ht]
 rw [hov]
 have B1 := Aside0.mk (blk_drew (boxc_alloc (boxc_below h1 hb) (.cells #[.int .u64 c.f0, .int .u32 c.f1, .int .u32 c.f2, .string c.f3] 37)))
 have B2 := Aside0.mk (blk_drew (boxc_alloc (boxc_below h2 hb) (.cells #[.int .u64 c.f0, .int .u32 c.f1, .int .u32 c.f2, .string c.f3] 37)))
 have B3 := Aside0.mk (blk_drew (boxc_alloc (boxc_below h3 hb) (.cells #[.int .u64 c.f0, .int .u32 c.f1, .int .u32 c.f2, .string c.f3] 37)))
 have B4 := Aside0.mk (blk_drew (boxc_new W #[.int .u64 c.f0, .int .u32 c.f1, .int .u32 c.f2, .string c.f3] 37))
 have HB := Aside0.mk (below_drew1 (below_alloc' (Below.refl _ W) (.cells #[.int .u64 c.f0, .int .u32 c.f1, .int .u32 c.f2, .string c.f3] 37)))
 clear hov h1 h2 h3
 go_enter Tryz.func54, Tryz.ntmps54
 go_wp2_with fail
 refine start_ (n := 7) (S := fun w' => w'.cell? ⟨W.heap.size, 0, none⟩ = some (.int .u64 c.f0) ∧ w'.cell? ⟨W.heap.size, 1, none⟩ = some (.int .u32 c.f1) ∧ w'.cell? ⟨W.heap.size, 2, none⟩ = some (.int .u32 c.f2) ∧ w'.cell? ⟨W.heap.size, 3, none⟩ = some (.string c.f3) ∧ w'.cell? ⟨g1, 0, none⟩ = some (.int .u32 x) ∧ w'.cell? ⟨g2, 0, none⟩ = some (.int .u32 y) ∧ w'.cell? ⟨g3, 0, none⟩ = some (.int .u64 s)) (ds := []) #[false, false, false, false, false, false, false] (by kernel_rfl) rfl rfl ⟨(blk_cell B4.out 0).trans rfl, (blk_cell B4.out 1).trans rfl, (blk_cell B4.out 2).trans rfl, (blk_cell B4.out 3).trans rfl, (blk_cell B1.out 0).trans rfl, (blk_cell B2.out 0).trans rfl, (blk_cell B3.out 0).trans rfl⟩ (fun hHeld => ?_); refine with_tabW roundis_tab1 roundis_bits1 (fun HT_ HW_ => ?_)
 generalize (W.alloc (.cells #[.int .u64 c.f0, .int .u32 c.f1, .int .u32 c.f2, .string c.f3] 37)).drew = w2 at B1 B2 B3 B4 HB hHeld ⊢
 refine tA 0 HT_ HW_ ?_
 refine tA 1 HT_ HW_ ?_
 refine tA 2 HT_ HW_ ?_
 refine tA 4 HT_ HW_ ?_
 refine oA 3 HT_ (fun K hK => ?_)
 refine goes_ Tryz.func55 (by kernel_rfl) rfl #[.agg #[.int .u64 c.f0, .int .u32 c.f1, .int .u32 c.f2, .string c.f3], .int .u32 x, .int .u32 y] (by rfl) rfl rfl (by simp only [List.map_toArray, List.map_cons, List.map_nil]; rfl) ?_
 refine (quad_far.calls 1 c.f0 c.f1 c.f2 c.f3 x y t _ ht).mono ?_
 rintro e w3 ⟨rfl, hb1⟩
 refine ⟨_, rfl, ?_⟩
 refine hK.out _ _ ⟨(blk_cell (blk_below B4.out hb1) 0).trans rfl, (blk_cell (blk_below B4.out hb1) 1).trans rfl, (blk_cell (blk_below B4.out hb1) 2).trans rfl, (blk_cell (blk_below B4.out hb1) 3).trans rfl, (blk_cell (blk_below B1.out hb1) 0).trans rfl, (blk_cell (blk_below B2.out hb1) 0).trans rfl, (blk_cell (blk_below B3.out hb1) 0).trans rfl⟩ (fun hHeld => ?_)
 clear hK K
 refine norm_ (a' := ?_) ?_ ?_
 rotate_left
 ·show Act.put _ (some 9) _ = _
  simp only [Act.put, List.setIfInBounds_toArray, List.set_cons_zero, List.set_cons_succ, i64_w, i32_w]
  rfl
 refine pA 5 HT_ ?_
 refine pA 6 HT_ ?_
 refine done_ (done_of HT_.out (by kernel_rfl)) ?_
 go_wp2
 go_ret
 exact ⟨rfl, below_call HB.out hb1⟩
set_option maxRecDepth 100000 in
set_option maxHeartbeats 8000000 in
theorem quad_Round.calls (k : Nat) (a0_0 a0_1 a0_2 : Int) (A0_3 : Option Addr) (c0_3 : Nat) (l0_3 : List S37) (A0_4 : Option Addr) (c0_4 : Nat) (l0_4 : List S44) (a1 a2 a3 : Int) (r1 : List S37) (r2 : Int) (w : World) (hr0_3 : Kd.C k37 w A0_3 l0_3.length l0_3) (hc0_3 : l0_3.length ≤ c0_3) (hr0_4 : Kd.C k44 w A0_4 l0_4.length l0_4) (hc0_4 : l0_4.length ≤ c0_4) (h : quad_Round.f k a0_0 a0_1 a0_2 l0_3 l0_4 a1 a2 a3 = some (r1, r2)) :
  Calls Tryz.prog 34 #[.agg #[.int .u32 a0_0, .int .u32 a0_1, .int .i64 a0_2, .slice A0_3 l0_3.length c0_3, .slice A0_4 l0_4.length c0_4], .int .u32 a1, .int .u32 a2, .int .u64 a3] w fun e w' => ∃ v0_ : Value, e = .returned (.tuple #[v0_, .int .i64 r2]) ∧ Kd.R k37 37 w' w.heap.size (fun _ => True) v0_ r1 ∧ Below w.heap.size w w' := by
 have HR3 := Aside0.mk hr0_3
 have HC3 := Aside0.mk hc0_3
 have HR4 := Aside0.mk hr0_4
 have HC4 := Aside0.mk hc0_4
 clear hr0_3 hc0_3 hr0_4 hc0_4
 unfold quad_Round.f at h
 obtain ⟨w3, hw3⟩ : ∃ w3, ((((w.alloc (.cells #[.int .u32 a0_0, .int .u32 a0_1, .int .i64 a0_2, .slice A0_3 l0_3.length c0_3, .slice A0_4 l0_4.length c0_4] 44)).alloc (.cells #[.int .u32 a1] 23)).alloc (.cells #[.int .u32 a2] 23)).alloc (.cells #[.int .u64 a3] 26)) = w3 := ⟨_, rfl⟩
 have hB3 : Aside0 (Below w.heap.size w w3) := ⟨by rw [← hw3]; exact below_alloc' (below_alloc' (below_alloc' (below_alloc' (Below.refl w.heap.size w) _) _) _) _⟩
 have HN3 : Aside0 (w3.heap[w.heap.size]? = some (.cells #[.int .u32 a0_0, .int .u32 a0_1, .int .i64 a0_2, .slice A0_3 l0_3.length c0_3, .slice A0_4 l0_4.length c0_4] 44 (0, 0))) := ⟨by rw [← hw3]; exact boxc_alloc (boxc_alloc (boxc_alloc (boxc_new w _ _) _) _) _⟩
 have hx3 : Aside0 (w3.heap[w.heap.size + 1]? = some (.cells #[.int .u32 a1] 23 (0, 0))) := ⟨by rw [← hw3]; exact boxc_alloc (boxc_alloc (by have := boxc_new (w.alloc (.cells #[.int .u32 a0_0, .int .u32 a0_1, .int .i64 a0_2, .slice A0_3 l0_3.length c0_3, .slice A0_4 l0_4.length c0_4] 44)) #[.int .u32 a1] 23; simpa using this) _) _⟩
 have hy3 : Aside0 (w3.heap[w.heap.size + 1 + 1]? = some (.cells #[.int .u32 a2] 23 (0, 0))) := ⟨by rw [← hw3]; exact boxc_alloc (by have := boxc_new ((w.alloc (.cells #[.int .u32 a0_0, .int .u32 a0_1, .int .i64 a0_2, .slice A0_3 l0_3.length c0_3, .slice A0_4 l0_4.length c0_4] 44)).alloc (.cells #[.int .u32 a1] 23)) #[.int .u32 a2] 23; simpa using this) _⟩
 have hs3 : Aside0 (w3.heap[w.heap.size + 1 + 1 + 1]? = some (.cells #[.int .u64 a3] 26 (0, 0))) := ⟨by rw [← hw3]; have := boxc_new (((w.alloc (.cells #[.int .u32 a0_0, .int .u32 a0_1, .int .i64 a0_2, .slice A0_3 l0_3.length c0_3, .slice A0_4 l0_4.length c0_4] 44)).alloc (.cells #[.int .u32 a1] 23)).alloc (.cells #[.int .u32 a2] 23)) #[.int .u64 a3] 26; simpa using this⟩
 have hu33 := Tryz.underlying44
 have x0 := boxc_cell hx3.out 0
 have y0 := boxc_cell hy3.out 0
 obtain ⟨m, hm⟩ : ∃ m, (if a1 < a2 then a2 else a1) = m := ⟨_, rfl⟩
 have hmm : mx a1 a2 = m := hm
 rw [hmm] at h
 clear hmm
 by_cases hmx : m ≥ 2147483648
 ·rw [if_pos hmx] at h
  have hmb : decide (2147483648 ≤ m) = true := decide_eq_true hmx
  obtain ⟨rfl, rfl⟩ := Prod.mk.inj (Option.some.inj h)
  clear h hmx
  go_enter Tryz.func34, Tryz.ntmps34
  go_wp2_with fail
  refine bodyPost_ret (v := .tuple #[.slice none 0 0, .int .i64 2]) (by simp [results, Tryz.results34, go_sem]) rfl ?_
  exact ⟨_, rfl, Kd.R_nil _ _ _ _ _, hB3.out⟩
 ·rw [if_neg hmx] at h
  have hmb : decide (2147483648 ≤ m) = false := decide_eq_false hmx
  by_cases hok : okT (ovR a1 a2 a3) (isR a1 a2 a3) (⟨⟨a0_0, a0_1, a0_2⟩, l0_3, l0_4⟩ : S44)
  case neg => rw [if_neg hok] at h; cases h
  rw [if_pos hok] at h
  obtain ⟨h1, rfl⟩ := Prod.mk.inj (Option.some.inj h)
  have HRES := Aside0.mk h1
  have HOK := Aside0.mk hok
  clear h h1 hok hmx
  have n0 := boxc_cell HN3.out 0
  have n1 := boxc_cell HN3.out 1
  have n2 := boxc_cell HN3.out 2
  have n3 := boxc_cell HN3.out 3
  have n4 := boxc_cell HN3.out 4
  go_enter Tryz.func34, Tryz.ntmps34
  go_wp2_with fail
  refine (quad_rows.calls _ _ _ _ _ _ _ rfl _).mono ?_
  rintro e w6 ⟨rfl, h6⟩
  obtain ⟨w5, hw5⟩ : ∃ w5, w3.alloc (.cells #[.int .u32 a0_0, .int .u32 a0_1, .int .i64 a0_2, .slice A0_3 l0_3.length c0_3, .slice A0_4 l0_4.length c0_4] 44) = w5 := ⟨_, rfl⟩
  rw [hw5] at h6 ⊢
  have hB5 : Below w3.heap.size w3 w5 := by rw [← hw5]; exact below_alloc' (Below.refl _ w3) _
  have hn5 : w5.heap[w3.heap.size]? = some (.cells #[.int .u32 a0_0, .int .u32 a0_1, .int .i64 a0_2, .slice A0_3 l0_3.length c0_3, .slice A0_4 l0_4.length c0_4] 44 (0, 0)) := by rw [← hw5]; exact boxc_new w3 _ _
  have hz6 : w6.heap.size = w5.heap.size + 2 := by rw [← h6]; simp
  have hB6 : Below w5.heap.size w5 w6 := by rw [← h6]; exact below_alloc' (below_alloc' (Below.refl _ w5) _) _
  have ho6 : w6.heap[w5.heap.size]? = some (.cells #[.func (.func 52) #[] #[.pointer (some ⟨w.heap.size + 1, 0, none⟩), .pointer (some ⟨w.heap.size + 1 + 1, 0, none⟩), .pointer (some ⟨w.heap.size + 1 + 1 + 1, 0, none⟩)]] 80 (0, 0)) := by rw [← h6]; exact boxc_alloc (boxc_new w5 _ _) _
  have hl6 : w6.heap[w5.heap.size + 1]? = some (.cells #[.slice (some ⟨w3.heap.size, 0, none⟩) 1 1] 42 (0, 0)) := by rw [← h6]; have := boxc_new (w5.alloc (.cells #[.func (.func 52) #[] #[.pointer (some ⟨w.heap.size + 1, 0, none⟩), .pointer (some ⟨w.heap.size + 1 + 1, 0, none⟩), .pointer (some ⟨w.heap.size + 1 + 1 + 1, 0, none⟩)]] 80)) #[.slice (some ⟨w3.heap.size, 0, none⟩) 1 1] 42; simpa using this
  have HB6 := Aside0.mk (below_call (below_call hB3.out hB5) hB6)
  have HB36 := Aside0.mk (below_call hB5 hB6)
  have HN6 := Aside0.mk (boxc_below hn5 hB6)
  have HO6 := Aside0.mk ho6
  have HL6 := Aside0.mk hl6
  clear h6 hw5 hz6 hB5 hn5 hB6 ho6 hl6 n0 n1 n2 n3 n4
  go_wp2_with fail
  refine (quad_sorted.calls _ _ _ _ (isR a1 a2 a3) (rowsL (ovR a1 a2 a3) [⟨⟨a0_0, a0_1, a0_2⟩, l0_3, l0_4⟩]) w6 (enters_of Tryz.func68 (by kernel_rfl) rfl)
   (SeqStopsN.room (rows_all (ovR a1 a2 a3) (fun _ => True) _ _ w6 (round_over (boxc_below hx3.out HB36.out) (boxc_below hy3.out HB36.out) (boxc_below hs3.out HB36.out)) _ _ (Nat.le_refl _) (allL_true _) _ _ _ _ w6 (Below.refl _ _) (one_node HN6.out (Kd.C_below HR3.out (HB6.out.mono (Nat.le_refl _))) HC3.out (Kd.C_below HR4.out (HB6.out.mono (Nat.le_refl _))) HC4.out) HL6.out HO6.out))
   (round_is (boxc_below hx3.out HB36.out) (boxc_below hy3.out HB36.out) (boxc_below hs3.out HB36.out)) HOK.out.1 HOK.out.2).mono ?_
  rintro e w8 ⟨v, rfl, hR, hB8⟩
  have HR := Aside0.mk (Kd.R_lower hR HB6.out.size)
  have HB8 := Aside0.mk (below_call HB6.out hB8)
  obtain ⟨A9, c9, e9⟩ := Kd.R_slice hR
  generalize (sortP _).length = n9 at e9
  subst e9
  clear hR hB8
  go_wp2
  refine bodyPost_ret (v := .tuple #[.slice A9 n9 c9, .int .i64 0]) (by simp [results, Tryz.results34, go_sem]) rfl ?_
  exact ⟨_, rfl, by rw [← HRES.out]; exact HR.out, HB8.out⟩
end
end Go.Proofs.YtoimgijhekahhaaGreat.P

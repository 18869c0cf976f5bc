-- Laid by a program of this session: the walk of functions of the translation, for this claim.
import Derived.Test.YtoimgijhekahhaaGreatPx0
import Derived.Test.YtoimgijhekahhaaGreatPx5
import Derived.Test.YtoimgijhekahhaaGreatPx6
import Derived.Test.YtoimgijhekahhaaGreatPx8
import Derived.Test.YtoimgijhekahhaaGreatPx801
import Derived.Test.YtoimgijhekahhaaGreatPx903
namespace Go.Proofs.YtoimgijhekahhaaGreat.P
open Go.RowKit Go.Proofs.YtoimgijhekahhaaGreatOwn Go.Proofs.YtoimgijhekahhaaGreatW.PrintWords Go.Proofs.YtoimgijhekahhaaGreatW.PrintLast Go.Proofs.YtoimgijhekahhaaGreatW.PrintMore
attribute [local go_sem] max2_int min2_int max_two min_two max_three min_three max_four min_four
set_option linter.unusedVariables false
set_option linter.unusedSimpArgs false
theorem cell_Touches.tot (x y l a b c d : Int) : ∃ r, cell_Touches.f x y l a b c d = some r := by
 unfold cell_Touches.f
 obtain ⟨t, ht⟩ := cell_Right.tot x y l
 rw [ht, Option.bind_some]
 cases t with
 | false => exact ⟨_, if_neg (by simp)⟩
 | true =>
  rw [if_pos rfl]
  obtain ⟨u, hu⟩ := cell_RightBox.tot a b c d
  rw [hu, Option.bind_some]
  cases u with
  | false => exact ⟨_, if_neg (by simp)⟩
  | true =>
   rw [if_pos rfl]
   obtain ⟨v, hv⟩ := cell_all.tot ht
   rw [hv, Option.bind_some]
   repeat' split
   all_goals exact ⟨_, rfl⟩
def ovW (b0 b1 b2 b3 : Int) (c : S41) : Bool := match cell_Touches.f c.f0 c.f1 c.f2 b0 b1 b2 b3 with | some t => !t | none => true
def isW (b0 b1 b2 b3 : Int) (r : S37) : Bool := match cell_In.f b0 b1 b2 b3 r.f1 r.f2 with | some t => t | none => false
def quad_Window.f (k : Nat) (a0_0 a0_1 a0_2 : Int) (l0_3 : List S37) (l0_4 : List S44) (a1_0 a1_1 a1_2 a1_3 : Int) : Option (List S37 × Int) :=
 (cell_RightBox.f a1_0 a1_1 a1_2 a1_3).bind fun t => if t = true then (if okT (ovW a1_0 a1_1 a1_2 a1_3) (isW a1_0 a1_1 a1_2 a1_3) ⟨⟨a0_0, a0_1, a0_2⟩, l0_3, l0_4⟩ then some (sortP ((rowsL (ovW a1_0 a1_1 a1_2 a1_3) [⟨⟨a0_0, a0_1, a0_2⟩, l0_3, l0_4⟩]).filter (isW a1_0 a1_1 a1_2 a1_3)), 0) else none) else some ([], 81)
theorem quad_Window.mono : ∀ a0 a1 a2 a3 a4 b0 b1 b2 b3 k, LeO (quad_Window.f k a0 a1 a2 a3 a4 b0 b1 b2 b3) (quad_Window.f (k + 1) a0 a1 a2 a3 a4 b0 b1 b2 b3) := fun _ _ _ _ _ _ _ _ _ _ => LeO.refl _
set_option maxRecDepth 100000 in
set_option maxHeartbeats 4000000 in
theorem win_over {w0 : World} {g : Nat} {b0 b1 b2 b3 : Int} (h : w0.heap[g]? = some (.cells #[.int .u32 b0, .int .u32 b1, .int .u32 b2, .int .u32 b3] 25 (0, 0))) : OverAt Tryz.prog 46 #[.pointer (some ⟨g, 0, none⟩)] w0 (ovW b0 b1 b2 b3) (fun _ => True) := by
 refine ⟨enters_of Tryz.func46 (by kernel_rfl) rfl, fun c W _ hb => ?_⟩
 obtain ⟨t, ht⟩ := cell_Touches.tot c.f0 c.f1 c.f2 b0 b1 b2 b3
 have hov : ovW b0 b1 b2 b3 c = !t := by unfold ovW; rw [ht]
 rw [hov]
 have c0 := boxc_cell (boxc_alloc (boxc_below h hb) (.cells #[.int .u32 c.f0, .int .u32 c.f1, .int .i64 c.f2] 41)) 0
 have c1 := boxc_cell (boxc_alloc (boxc_below h hb) (.cells #[.int .u32 c.f0, .int .u32 c.f1, .int .i64 c.f2] 41)) 1
 have c2 := boxc_cell (boxc_alloc (boxc_below h hb) (.cells #[.int .u32 c.f0, .int .u32 c.f1, .int .i64 c.f2] 41)) 2
 have c3 := boxc_cell (boxc_alloc (boxc_below h hb) (.cells #[.int .u32 c.f0, .int .u32 c.f1, .int .i64 c.f2] 41)) 3
 clear hov
 go_enter Tryz.func46, Tryz.ntmps46
 go_wp2_with fail
 refine (cell_Touches.calls c.f0 c.f1 c.f2 b0 b1 b2 b3 t _ ht).mono ?_
 rintro e w1 ⟨rfl, hb1⟩
 go_wp2
 go_ret
 exact ⟨rfl, below_call (below_alloc' (Below.refl _ W) _) hb1⟩
set_option maxRecDepth 100000 in
set_option maxHeartbeats 4000000 in
theorem win_is {w0 : World} {g : Nat} {b0 b1 b2 b3 : Int} (h : w0.heap[g]? = some (.cells #[.int .u32 b0, .int .u32 b1, .int .u32 b2, .int .u32 b3] 25 (0, 0))) : IsAt Tryz.prog 50 #[.pointer (some ⟨g, 0, none⟩)] w0 (isW b0 b1 b2 b3) := by
 refine ⟨enters_of Tryz.func50 (by kernel_rfl) rfl, fun c W hb => ?_⟩
 obtain ⟨t, ht⟩ := cell_In.tot b0 b1 b2 b3 c.f1 c.f2
 have hov : isW b0 b1 b2 b3 c = t := by unfold isW; rw [ht]
 rw [hov]
 have c0 := boxc_cell (boxc_alloc (boxc_below h hb) (.cells #[.int .u64 c.f0, .int .u32 c.f1, .int .u32 c.f2, .string c.f3] 37)) 0
 have c1 := boxc_cell (boxc_alloc (boxc_below h hb) (.cells #[.int .u64 c.f0, .int .u32 c.f1, .int .u32 c.f2, .string c.f3] 37)) 1
 have c2 := boxc_cell (boxc_alloc (boxc_below h hb) (.cells #[.int .u64 c.f0, .int .u32 c.f1, .int .u32 c.f2, .string c.f3] 37)) 2
 have c3 := boxc_cell (boxc_alloc (boxc_below h hb) (.cells #[.int .u64 c.f0, .int .u32 c.f1, .int .u32 c.f2, .string c.f3] 37)) 3
 clear hov
 go_enter Tryz.func50, Tryz.ntmps50
 go_wp2_with fail
 refine (cell_In.calls b0 b1 b2 b3 c.f1 c.f2 t _ ht).mono ?_
 rintro e w1 ⟨rfl, hb1⟩
 go_wp2
 go_ret
 exact ⟨rfl, below_call (below_alloc' (Below.refl _ W) _) hb1⟩
set_option maxRecDepth 100000 in
set_option maxHeartbeats 8000000 in
theorem quad_Window.calls (k : Nat) (a0_0 a0_1 a0_2 : Int) (A0_3 : Option Addr) (c0_3 : Nat) (l0_3 : List S37) (A0_4 : Option Addr) (c0_4 : Nat) (l0_4 : List S44) (a1_0 a1_1 a1_2 a1_3 : Int) (r1 : List S37) (r2 : Int) (w : World) (hr0_3 : Kd.C k37 w A0_3 l0_3.length l0_3) (hc0_3 : l0_3.length ≤ c0_3) (hr0_4 : Kd.C k44 w A0_4 l0_4.length l0_4) (hc0_4 : l0_4.length ≤ c0_4) (h : quad_Window.f k a0_0 a0_1 a0_2 l0_3 l0_4 a1_0 a1_1 a1_2 a1_3 = some (r1, r2)) :
  Calls Tryz.prog 32 #[.agg #[.int .u32 a0_0, .int .u32 a0_1, .int .i64 a0_2, .slice A0_3 l0_3.length c0_3, .slice A0_4 l0_4.length c0_4], .agg #[.int .u32 a1_0, .int .u32 a1_1, .int .u32 a1_2, .int .u32 a1_3]] w fun e w' => ∃ v0_ : Value, e = .returned (.tuple #[v0_, .int .i64 r2]) ∧ Kd.R k37 37 w' w.heap.size (fun _ => True) v0_ r1 ∧ Below w.heap.size w w' := by
 have HR3 := Aside0.mk hr0_3
 have HC3 := Aside0.mk hc0_3
 have HR4 := Aside0.mk hr0_4
 have HC4 := Aside0.mk hc0_4
 clear hr0_3 hc0_3 hr0_4 hc0_4
 obtain ⟨t, ht⟩ := cell_RightBox.tot a1_0 a1_1 a1_2 a1_3
 unfold quad_Window.f at h
 rw [ht, Option.bind_some] at h
 have HB2 := Aside0.mk (below_alloc' (below_alloc' (Below.refl w.heap.size w) (.cells #[.int .u32 a0_0, .int .u32 a0_1, .int .i64 a0_2, .slice A0_3 l0_3.length c0_3, .slice A0_4 l0_4.length c0_4] 44)) (.cells #[.int .u32 a1_0, .int .u32 a1_1, .int .u32 a1_2, .int .u32 a1_3] 25))
 have HN2 := Aside0.mk (boxc_alloc (boxc_new w #[.int .u32 a0_0, .int .u32 a0_1, .int .i64 a0_2, .slice A0_3 l0_3.length c0_3, .slice A0_4 l0_4.length c0_4] 44) (.cells #[.int .u32 a1_0, .int .u32 a1_1, .int .u32 a1_2, .int .u32 a1_3] 25))
 have HX2 : Aside0 (((w.alloc (.cells #[.int .u32 a0_0, .int .u32 a0_1, .int .i64 a0_2, .slice A0_3 l0_3.length c0_3, .slice A0_4 l0_4.length c0_4] 44)).alloc (.cells #[.int .u32 a1_0, .int .u32 a1_1, .int .u32 a1_2, .int .u32 a1_3] 25)).heap[w.heap.size + 1]? = some (.cells #[.int .u32 a1_0, .int .u32 a1_1, .int .u32 a1_2, .int .u32 a1_3] 25 (0, 0))) := ⟨by have := boxc_new (w.alloc (.cells #[.int .u32 a0_0, .int .u32 a0_1, .int .i64 a0_2, .slice A0_3 l0_3.length c0_3, .slice A0_4 l0_4.length c0_4] 44)) #[.int .u32 a1_0, .int .u32 a1_1, .int .u32 a1_2, .int .u32 a1_3] 25; simpa using this⟩
 have hu33 := Tryz.underlying44
 cases t with
 | false =>
  rw [if_neg (by simp)] at h
  obtain ⟨rfl, rfl⟩ := Prod.mk.inj (Option.some.inj h)
  clear h
  go_enter Tryz.func32, Tryz.ntmps32
  go_wp2_with fail
  refine (cell_RightBox.calls a1_0 a1_1 a1_2 a1_3 false _ ht).mono ?_
  rintro e w3 ⟨rfl, hb3⟩
  go_wp2
  refine bodyPost_ret (v := .tuple #[.slice none 0 0, .int .i64 81]) (by simp [results, Tryz.results32, go_sem]) rfl ?_
  exact ⟨_, rfl, Kd.R_nil _ _ _ _ _, below_call HB2.out hb3⟩
 | true =>
  rw [if_pos rfl] at h
  by_cases hok : okT (ovW a1_0 a1_1 a1_2 a1_3) (isW a1_0 a1_1 a1_2 a1_3) (⟨⟨a0_0, a0_1, a0_2⟩, l0_3, l0_4⟩ : S44)
  case neg => rw [if_neg hok] at h; cases h
  rw [if_pos hok] at h
  obtain ⟨h1, rfl⟩ := Prod.mk.inj (Option.some.inj h)
  have HRES := Aside0.mk h1
  have HOK := Aside0.mk hok
  clear h h1 hok
  go_enter Tryz.func32, Tryz.ntmps32
  go_wp2_with fail
  refine (cell_RightBox.calls a1_0 a1_1 a1_2 a1_3 true _ ht).mono ?_
  rintro e w3 ⟨rfl, hb3⟩
  have hB3 := Aside0.mk (below_call HB2.out hb3)
  have hn3 := boxc_below HN2.out hb3
  have hx3 := Aside0.mk (boxc_below HX2.out hb3)
  clear hb3
  have n0 := boxc_cell hn3 0
  have n1 := boxc_cell hn3 1
  have n2 := boxc_cell hn3 2
  have n3 := boxc_cell hn3 3
  have n4 := boxc_cell hn3 4
  have HN3 := Aside0.mk hn3
  clear hn3
  go_wp2_with fail
  refine (quad_rows.calls _ _ _ _ _ _ _ rfl _).mono ?_
  rintro e w6 ⟨rfl, h6⟩
  obtain ⟨w5, hw5⟩ : ∃ w5, w3.alloc (.cells #[.int .u32 a0_0, .int .u32 a0_1, .int .i64 a0_2, .slice A0_3 l0_3.length c0_3, .slice A0_4 l0_4.length c0_4] 44) = w5 := ⟨_, rfl⟩
  rw [hw5] at h6 ⊢
  have hB5 : Below w3.heap.size w3 w5 := by rw [← hw5]; exact below_alloc' (Below.refl _ w3) _
  have hn5 : w5.heap[w3.heap.size]? = some (.cells #[.int .u32 a0_0, .int .u32 a0_1, .int .i64 a0_2, .slice A0_3 l0_3.length c0_3, .slice A0_4 l0_4.length c0_4] 44 (0, 0)) := by rw [← hw5]; exact boxc_new w3 _ _
  have hz6 : w6.heap.size = w5.heap.size + 2 := by rw [← h6]; simp
  have hB6 : Below w5.heap.size w5 w6 := by rw [← h6]; exact below_alloc' (below_alloc' (Below.refl _ w5) _) _
  have ho6 : w6.heap[w5.heap.size]? = some (.cells #[.func (.func 46) #[] #[.pointer (some ⟨w.heap.size + 1, 0, none⟩)]] 80 (0, 0)) := by rw [← h6]; exact boxc_alloc (boxc_new w5 _ _) _
  have hl6 : w6.heap[w5.heap.size + 1]? = some (.cells #[.slice (some ⟨w3.heap.size, 0, none⟩) 1 1] 42 (0, 0)) := by rw [← h6]; have := boxc_new (w5.alloc (.cells #[.func (.func 46) #[] #[.pointer (some ⟨w.heap.size + 1, 0, none⟩)]] 80)) #[.slice (some ⟨w3.heap.size, 0, none⟩) 1 1] 42; simpa using this
  have HB6 := Aside0.mk (below_call (below_call hB3.out hB5) hB6)
  have HB36 := Aside0.mk (below_call hB5 hB6)
  have HN6 := Aside0.mk (boxc_below hn5 hB6)
  have HO6 := Aside0.mk ho6
  have HL6 := Aside0.mk hl6
  clear h6 hw5 hz6 hB5 hn5 hB6 ho6 hl6 n0 n1 n2 n3 n4
  go_wp2_with fail
  refine (quad_sorted.calls _ _ _ _ (isW a1_0 a1_1 a1_2 a1_3) (rowsL (ovW a1_0 a1_1 a1_2 a1_3) [⟨⟨a0_0, a0_1, a0_2⟩, l0_3, l0_4⟩]) w6 (enters_of Tryz.func68 (by kernel_rfl) rfl)
   (SeqStopsN.room (rows_all (ovW a1_0 a1_1 a1_2 a1_3) (fun _ => True) _ _ w6 (win_over (boxc_below hx3.out HB36.out)) _ _ (Nat.le_refl _) (allL_true _) _ _ _ _ w6 (Below.refl _ _) (one_node HN6.out (Kd.C_below HR3.out (HB6.out.mono (Nat.le_refl _))) HC3.out (Kd.C_below HR4.out (HB6.out.mono (Nat.le_refl _))) HC4.out) HL6.out HO6.out))
   (win_is (boxc_below hx3.out HB36.out)) HOK.out.1 HOK.out.2).mono ?_
  rintro e w8 ⟨v, rfl, hR, hB8⟩
  have HR := Aside0.mk (Kd.R_lower hR HB6.out.size)
  have HB8 := Aside0.mk (below_call HB6.out hB8)
  obtain ⟨A9, c9, e9⟩ := Kd.R_slice hR
  generalize (sortP _).length = n9 at e9
  subst e9
  clear hR hB8
  go_wp2
  refine bodyPost_ret (v := .tuple #[.slice A9 n9 c9, .int .i64 0]) (by simp [results, Tryz.results32, go_sem]) rfl ?_
  exact ⟨_, rfl, by rw [← HRES.out]; exact HR.out, HB8.out⟩
end Go.Proofs.YtoimgijhekahhaaGreat.P

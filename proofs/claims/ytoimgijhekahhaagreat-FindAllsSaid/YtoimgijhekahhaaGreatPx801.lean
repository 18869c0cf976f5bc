-- Laid by a program of this session: the walk of functions of the translation, for this claim.
import Derived.Test.YtoimgijhekahhaaGreatPx0
import Derived.Test.YtoimgijhekahhaaGreatPx5
import Derived.Test.YtoimgijhekahhaaGreatPx6
import Derived.Test.YtoimgijhekahhaaGreatStep
import Derived.Test.YtoimgijhekahhaaGreatPx8
namespace Go.Proofs.YtoimgijhekahhaaGreat.P
open Go.RowKit Go.Proofs.YtoimgijhekahhaaGreatOwn Go.Proofs.YtoimgijhekahhaaGreatW.PrintWords Go.Proofs.YtoimgijhekahhaaGreatW.PrintLast Go.Proofs.YtoimgijhekahhaaGreatW.PrintMore
attribute [local go_sem] max2_int min2_int max_two min_two max_three min_three max_four min_four
set_option linter.unusedVariables false
set_option linter.unusedSimpArgs false
theorem cell_RightBox.tot (a b c d : Int) : ∃ r, cell_RightBox.f a b c d = some r := by
 unfold cell_RightBox.f
 repeat' split
 all_goals exact ⟨_, rfl⟩
theorem cell_Right.inv {x y l : Int} (h : cell_Right.f x y l = some true) : 0 ≤ l ∧ l ≤ 31 := by
 unfold cell_Right.f at h
 by_cases h1 : l < 0
 ·rw [if_pos h1] at h; cases h
 ·rw [if_neg h1] at h
  by_cases h2 : l > 31
  ·rw [if_pos h2] at h; cases h
  ·omega
theorem cell_all.tot {x y l : Int} (h : cell_Right.f x y l = some true) : ∃ r, cell_all.f x y l = some r := by
 unfold cell_all.f cell_size.f
 rw [if_pos (cell_Right.inv h).1]
 exact ⟨_, rfl⟩
theorem one_node {w : World} {g : Nat} {a b c : Int} {l3 : List S37} {l4 : List S44} {A3 : Option Addr} {c3 : Nat} {A4 : Option Addr} {c4 : Nat}
  (h : w.heap[g]? = some (.cells #[.int .u32 a, .int .u32 b, .int .i64 c, .slice A3 l3.length c3, .slice A4 l4.length c4] 44 (0, 0))) (h3 : Kd.C k37 w A3 l3.length l3) (hc3 : l3.length ≤ c3) (h4 : Kd.C k44 w A4 l4.length l4) (hc4 : l4.length ≤ c4) :
  Kd.C k44 w (some ⟨g, 0, none⟩) 1 [(⟨⟨a, b, c⟩, l3, l4⟩ : S44)] := by
 refine ⟨rfl, by decide, fun _ => ⟨_, rfl, fun j p hj => ?_⟩⟩
 cases j with
 | zero =>
  simp only [List.getElem?_cons_zero, Option.some.injEq] at hj
  subst hj
  refine ⟨_, rfl, k44_mk w ⟨⟨a, b, c⟩, l3, l4⟩ hc3 h3 hc4 h4, fun i u hu => ?_⟩
  have := blk_cell h i
  rw [show ((⟨g, 0, none⟩ : Addr).add (0 * k44.sz + i)) = ⟨g, i, none⟩ by show (if (0 * _ + i : Nat) = 0 then _ else _) = _; rw [Nat.zero_mul, Nat.zero_add]; split <;> simp_all]
  rw [this]
  simpa using hu
 | succ j => simp at hj
theorem always_cell (b : Bool) (w : World) : Calls Tryz.prog 58 #[.bool b] w fun e w' => e = .returned (.func (.func 72) #[] #[.pointer (some ⟨w.heap.size, 0, none⟩)]) ∧ w' = w.alloc (.cells #[.bool b] 4) := by
 go_enter Tryz.func58, Tryz.ntmps58
 go_wp2
 go_ret
 exact ⟨rfl, rfl⟩
theorem always_row (b : Bool) (w : World) : Calls Tryz.prog 59 #[.bool b] w fun e w' => e = .returned (.func (.func 73) #[] #[.pointer (some ⟨w.heap.size, 0, none⟩)]) ∧ w' = w.alloc (.cells #[.bool b] 4) := by
 go_enter Tryz.func59, Tryz.ntmps59
 go_wp2
 go_ret
 exact ⟨rfl, rfl⟩
theorem always_cell_at {w0 : World} {g : Nat} {b : Bool} (h : w0.heap[g]? = some (.cells #[.bool b] 4 (0, 0))) : OverAt Tryz.prog 72 #[.pointer (some ⟨g, 0, none⟩)] w0 (fun _ => b) (fun _ => True) := by
 refine ⟨enters_of Tryz.func72 (by kernel_rfl) rfl, fun c W _ hb => ?_⟩
 have c0 := boxc_cell (boxc_alloc (boxc_below h hb) (.cells #[.int .u32 c.f0, .int .u32 c.f1, .int .i64 c.f2] 41)) 0
 go_enter Tryz.func72, Tryz.ntmps72
 go_wp2
 go_ret
 exact ⟨rfl, below_alloc' (Below.refl _ W) _⟩
theorem always_row_at {w0 : World} {g : Nat} {b : Bool} (h : w0.heap[g]? = some (.cells #[.bool b] 4 (0, 0))) : IsAt Tryz.prog 73 #[.pointer (some ⟨g, 0, none⟩)] w0 (fun _ => b) := by
 refine ⟨enters_of Tryz.func73 (by kernel_rfl) rfl, fun c W hb => ?_⟩
 have c0 := boxc_cell (boxc_alloc (boxc_below h hb) (.cells #[.int .u64 c.f0, .int .u32 c.f1, .int .u32 c.f2, .string c.f3] 37)) 0
 go_enter Tryz.func73, Tryz.ntmps73
 go_wp2
 go_ret
 exact ⟨rfl, below_alloc' (Below.refl _ W) _⟩
def okT (ov : S41 → Bool) (is : S37 → Bool) (n : S44) : Prop := (rowsL ov [n]).length ≤ 1000000 ∧ (((rowsL ov [n]).filter is).map (·.f0)).Nodup
instance (ov : S41 → Bool) (is : S37 → Bool) (n : S44) : Decidable (okT ov is n) := inferInstanceAs (Decidable (_ ∧ _))
theorem allL_true : ∀ (l : List S44), allL (fun _ => True) l
 | [] => trivial
 | ⟨_, _, ks⟩ :: l => ⟨⟨trivial, allL_true ks⟩, allL_true l⟩
def quad_Rows.f (k : Nat) (a0_0 a0_1 a0_2 : Int) (l0_3 : List S37) (l0_4 : List S44) : Option (List S37) :=
 if okT (fun _ => false) (fun _ => true) ⟨⟨a0_0, a0_1, a0_2⟩, l0_3, l0_4⟩ then some (sortP ((rowsL (fun _ => false) [⟨⟨a0_0, a0_1, a0_2⟩, l0_3, l0_4⟩]).filter (fun _ => true))) else none
theorem quad_Rows.mono : ∀ a0 a1 a2 a3 a4 k, LeO (quad_Rows.f k a0 a1 a2 a3 a4) (quad_Rows.f (k + 1) a0 a1 a2 a3 a4) := fun _ _ _ _ _ _ => LeO.refl _
def rows_T1 : Bool × List (List Nat × List Nat) := (true, [([], []), ([], []), ([1], [1]), ([0, 2, 0], [0, 2]), ([3], []), ([3, 4, 4], [3, 4]), ([5, 5, 0, 1, 2, 3, 4, 5], [5])])
def rows_B1 : List Nat := [0, 0, 2, 7, 15, 31, 63]
theorem rows_tab1 : rtab .any (opsOf Tryz.f38 1) = rows_T1 := by kernel_rfl
theorem rows_bits1 : waitsOk rows_T1.2 rows_B1 = true := by kernel_rfl
set_option maxRecDepth 100000 in
set_option maxHeartbeats 8000000 in
theorem quad_Rows.calls (k : Nat) (a0_0 a0_1 a0_2 : Int) (A0_3 : Option Addr) (c0_3 : Nat) (l0_3 : List S37) (A0_4 : Option Addr) (c0_4 : Nat) (l0_4 : List S44) (r1 : List S37) (w : World) (hr0_3 : Kd.C k37 w A0_3 l0_3.length l0_3) (hc0_3 : l0_3.length ≤ c0_3) (hr0_4 : Kd.C k44 w A0_4 l0_4.length l0_4) (hc0_4 : l0_4.length ≤ c0_4) (h : quad_Rows.f k a0_0 a0_1 a0_2 l0_3 l0_4 = some r1) :
  Calls Tryz.prog 38 #[.agg #[.int .u32 a0_0, .int .u32 a0_1, .int .i64 a0_2, .slice A0_3 l0_3.length c0_3, .slice A0_4 l0_4.length c0_4]] w fun e w' => ∃ v_, e = .returned v_ ∧ Kd.R k37 37 w' w.heap.size (fun _ => True) v_ r1 ∧ Below w.heap.size w w' := by
 unfold quad_Rows.f at h
 by_cases hok : okT (fun _ => false) (fun _ => true) (⟨⟨a0_0, a0_1, a0_2⟩, l0_3, l0_4⟩ : S44)
 case neg => rw [if_neg hok] at h; cases h
 rw [if_pos hok] at h
 have h := (Option.some.inj h)
 have HOK := Aside0.mk hok
 have HR3 := Aside0.mk hr0_3
 have HC3 := Aside0.mk hc0_3
 have HR4 := Aside0.mk hr0_4
 have HC4 := Aside0.mk hc0_4
 have HRES := Aside0.mk h
 clear hok hr0_3 hc0_3 hr0_4 hc0_4 h
 have hu33 := Tryz.underlying44
 go_enter Tryz.func38, Tryz.ntmps38
 go_wp2_with fail
 have n0_ := Aside0.mk (below_drew1 (below_alloc' (Below.refl w.heap.size w) (.cells #[.int .u32 a0_0, .int .u32 a0_1, .int .i64 a0_2, .slice A0_3 l0_3.length c0_3, .slice A0_4 l0_4.length c0_4] 44)))
 have n1_ := Aside0.mk (blk_drew (boxc_new w #[.int .u32 a0_0, .int .u32 a0_1, .int .i64 a0_2, .slice A0_3 l0_3.length c0_3, .slice A0_4 l0_4.length c0_4] 44))
 refine start_ (n := 7) (S := fun w' => w'.heap[w.heap.size]? = some (.cells #[.int .u32 a0_0, .int .u32 a0_1, .int .i64 a0_2, .slice A0_3 l0_3.length c0_3, .slice A0_4 l0_4.length c0_4] 44 (0, 0))) (ds := [5]) #[false, false, false, false, false, false, false] (by kernel_rfl) rfl rfl n1_.out (fun hHeld => ?_); refine with_tabW rows_tab1 rows_bits1 (fun HT_ HW_ => ?_)
 generalize (w.alloc (.cells #[.int .u32 a0_0, .int .u32 a0_1, .int .i64 a0_2, .slice A0_3 l0_3.length c0_3, .slice A0_4 l0_4.length c0_4] 44)).drew = w2 at n0_ n1_ hHeld ⊢
 refine take_ (i := 1) (N := some 4) (v := ?_) (a' := ?_) #[false, true, false, false, false, false, false] rfl rfl (take_ofW HT_.out HW_.out (by kernel_rfl)) (fun _ _ _ h => h) (Or.inl ⟨by rfl, ?_⟩) hHeld ?_ ?_
 rotate_left
 ·intro w' hS
  have s0 := boxc_cell hS 0
  have s1 := boxc_cell hS 1
  have s2 := boxc_cell hS 2
  have s3 := boxc_cell hS 3
  have s4 := boxc_cell hS 4
  go_simp
  with_reducible rfl
 rotate_left
 ·simp only [Act.put, List.setIfInBounds_toArray, List.set_cons_zero, List.set_cons_succ, i64_w, i32_w]
  rfl
 refine join_ (σ := Nat × Nat) 4 #[true, true, true, false, false, false, false] (fun s => [(3, .func (.func 72) #[] #[.pointer (some ⟨s.1, 0, none⟩)]), (5, .slice (some ⟨s.2, 0, none⟩) 1 1)]) (fun s w' => w'.heap[w.heap.size]? = some (.cells #[.int .u32 a0_0, .int .u32 a0_1, .int .i64 a0_2, .slice A0_3 l0_3.length c0_3, .slice A0_4 l0_4.length c0_4] 44 (0, 0)) ∧ Below w.heap.size w w' ∧ w'.heap[s.1]? = some (.cells #[.bool false] 4 (0, 0)) ∧ w'.heap[s.2]? = some (.cells #[.int .u32 a0_0, .int .u32 a0_1, .int .i64 a0_2, .slice A0_3 l0_3.length c0_3, .slice A0_4 l0_4.length c0_4] 44 (0, 0))) ?_ ?_
 ·rintro ⟨gB, gN⟩ w5 ⟨hHeld, hB5, hb5, hn5⟩
  refine norm_ (a' := ?_) ?_ ?_
  rotate_left
  ·show putAll _ _ = _
   simp only [putAll, Act.put, List.setIfInBounds_toArray, List.set_cons_zero, List.set_cons_succ, i64_w, i32_w]
   rfl
  refine oA 3 HT_ (fun K hK => ?_)
  refine goes_ Tryz.func49 (by kernel_rfl) rfl #[.func (.func 72) #[] #[.pointer (some ⟨gB, 0, none⟩)], .slice (some ⟨gN, 0, none⟩) 1 1] (by rfl) rfl rfl (by simp only [List.map_toArray, List.map_cons, List.map_nil]; rfl) ?_
  refine (quad_rows.calls _ _ _ _ _ _ _ rfl _).mono ?_
  rintro e w6 ⟨rfl, h6⟩
  refine ⟨_, rfl, ?_⟩
  have hz6 : w6.heap.size = w5.heap.size + 2 := by rw [← h6]; simp
  have hB6 : Below w5.heap.size w5 w6 := by rw [← h6]; exact below_alloc' (below_alloc' (Below.refl _ w5) _) _
  have ho6 : w6.heap[w5.heap.size]? = some (.cells #[.func (.func 72) #[] #[.pointer (some ⟨gB, 0, none⟩)]] 80 (0, 0)) := by rw [← h6]; exact boxc_alloc (boxc_new w5 _ _) _
  have hl6 : w6.heap[w5.heap.size + 1]? = some (.cells #[.slice (some ⟨gN, 0, none⟩) 1 1] 42 (0, 0)) := by rw [← h6]; have := boxc_new (w5.alloc (.cells #[.func (.func 72) #[] #[.pointer (some ⟨gB, 0, none⟩)]] 80)) #[.slice (some ⟨gN, 0, none⟩) 1 1] 42; simpa using this
  clear h6
  refine hK.out _ _ (boxc_below hHeld hB6) (fun hHeld => ?_)
  clear hK K
  refine norm_ (a' := ?_) ?_ ?_
  rotate_left
  ·show Act.put _ (some 6) _ = _
   simp only [Act.put, List.setIfInBounds_toArray, List.set_cons_zero, List.set_cons_succ, i64_w, i32_w]
   rfl
  refine oA 4 HT_ (fun K hK => ?_)
  refine goes_ Tryz.func59 (by kernel_rfl) rfl #[.bool true] (by rfl) rfl rfl (by simp only [List.map_toArray, List.map_cons, List.map_nil]; rfl) ?_
  refine (always_row true _).mono ?_
  rintro e w7 ⟨rfl, h7⟩
  refine ⟨_, rfl, ?_⟩
  have hB7 : Below w6.heap.size w6 w7 := by rw [h7]; exact below_alloc' (Below.refl _ w6) _
  have hi7 : w7.heap[w6.heap.size]? = some (.cells #[.bool true] 4 (0, 0)) := by rw [h7]; exact boxc_new w6 _ _
  clear h7
  refine hK.out _ _ (boxc_below hHeld hB7) (fun hHeld => ?_)
  clear hK K
  refine norm_ (a' := ?_) ?_ ?_
  rotate_left
  ·show Act.put _ (some 7) _ = _
   simp only [Act.put, List.setIfInBounds_toArray, List.set_cons_zero, List.set_cons_succ, i64_w, i32_w]
   rfl
  refine last_ (i := 5) (N := some 8) #[true, true, true, true, true, true, false] rfl rfl (one_of HT_.out (by kernel_rfl)) (by decide) (fun K hK => ?_)
  refine goes_ Tryz.func48 (by kernel_rfl) rfl #[.func (.func 68) #[] #[.pointer (some ⟨w5.heap.size + 1, 0, none⟩), .pointer (some ⟨w5.heap.size, 0, none⟩)], .func (.func 73) #[] #[.pointer (some ⟨w6.heap.size, 0, none⟩)]] (by rfl) rfl rfl (by simp only [List.map_toArray, List.map_cons, List.map_nil]; rfl) ?_
  have hB56 := below_call hB5 hB6
  have hB57 := below_call hB56 hB7
  refine (quad_sorted.calls _ _ _ _ (fun _ => true) (rowsL (fun _ => false) [⟨⟨a0_0, a0_1, a0_2⟩, l0_3, l0_4⟩]) w7 (enters_of Tryz.func68 (by kernel_rfl) rfl)
   (SeqStopsN.room (rows_all (fun _ => false) (fun _ => True) _ _ w7 (always_cell_at (boxc_below (boxc_below hb5 hB6) hB7)) _ _ (Nat.le_refl _) (allL_true _) _ _ _ _ w7 (Below.refl _ _) (one_node (boxc_below (boxc_below hn5 hB6) hB7) (Kd.C_below HR3.out (hB57.mono (Nat.le_refl _))) HC3.out (Kd.C_below HR4.out (hB57.mono (Nat.le_refl _))) HC4.out) (boxc_below hl6 hB7) (boxc_below ho6 hB7)))
   (always_row_at hi7) HOK.out.1 HOK.out.2).mono ?_
  rintro e w8 ⟨v, rfl, hR, hB8⟩
  refine ⟨_, rfl, ?_⟩
  have HR := Aside0.mk (Kd.R_lower hR (hB57.size))
  have HB8 := Aside0.mk (below_call hB57 hB8)
  obtain ⟨A9, c9, e9⟩ := Kd.R_slice hR
  generalize (sortP _).length = n9 at e9
  subst e9
  refine hK.out _ _ ?_
  clear hK K
  refine norm_ (a' := ?_) ?_ ?_
  rotate_left
  ·show Act.put _ (some 8) _ = _
   simp only [Act.put, List.setIfInBounds_toArray, List.set_cons_zero, List.set_cons_succ, i64_w, i32_w]
   rfl
  refine pA 6 HT_ ?_
  refine done_ (done_of HT_.out (by kernel_rfl)) ?_
  go_wp2
  go_ret
  exact ⟨_, rfl, by rw [← HRES.out]; exact HR.out, HB8.out⟩
 ·intro hcont
  refine two_ (i := 0) (j := 2) (Ni := some 3) (Nj := some 5) #[true, true, false, false, false, false, false] #[false, true, true, false, false, false, false] rfl rfl rfl rfl (two_of HT_.out (by kernel_rfl)) (by decide) (by decide) (fun K hK => ?_) (fun K hK => ?_)
  ·refine goes_ Tryz.func58 (by kernel_rfl) rfl #[.bool false] (by rfl) rfl rfl (by simp only [List.map_toArray, List.map_cons, List.map_nil]; rfl) ?_
   refine (always_cell false _).mono ?_
   rintro e w3 ⟨rfl, h3⟩
   refine ⟨_, rfl, ?_⟩
   have hB3 : Below w2.heap.size w2 w3 := by rw [h3]; exact below_alloc' (Below.refl _ w2) _
   have hb3 : w3.heap[w2.heap.size]? = some (.cells #[.bool false] 4 (0, 0)) := by rw [h3]; exact boxc_new w2 _ _
   refine hK.out _ _ (boxc_below hHeld hB3) (fun hHeld => ?_)
   clear hK K h3
   refine norm_ (a' := ?_) ?_ ?_
   rotate_left
   ·show Act.put _ (some 3) _ = _
    simp only [Act.put, List.setIfInBounds_toArray, List.set_cons_zero, List.set_cons_succ, i64_w, i32_w]
    rfl
   refine oA 2 HT_ (fun K hK => ?_)
   refine value_ (w1 := ?_) (v := ?_) (by rfl) rfl ?_ ?_
   rotate_left 2
   ·go_simp
    constructor
    ·rfl
    ·rfl
   refine hK.out _ _ (boxc_alloc hHeld _) (fun hHeld => ?_)
   clear hK K
   have hc := hcont (w2.heap.size, w3.heap.size) _ ⟨hHeld, below_alloc' (below_call n0_.out hB3) _, boxc_alloc hb3 _, boxc_new w3 _ _⟩
   refine norm_ ?_ hc
   simp only [putAll, Act.put, List.setIfInBounds_toArray, List.set_cons_zero, List.set_cons_succ, i64_w, i32_w]
  ·refine value_ (w1 := ?_) (v := ?_) (by rfl) rfl ?_ ?_
   rotate_left 2
   ·go_simp
    constructor
    ·rfl
    ·rfl
   refine hK.out _ _ (boxc_alloc hHeld _) (fun hHeld => ?_)
   clear hK K
   refine norm_ (a' := ?_) ?_ ?_
   rotate_left
   ·show Act.put _ (some 5) _ = _
    simp only [Act.put, List.setIfInBounds_toArray, List.set_cons_zero, List.set_cons_succ, i64_w, i32_w]
    rfl
   refine oA 0 HT_ (fun K hK => ?_)
   refine goes_ Tryz.func58 (by kernel_rfl) rfl #[.bool false] (by rfl) rfl rfl (by simp only [List.map_toArray, List.map_cons, List.map_nil]; rfl) ?_
   refine (always_cell false _).mono ?_
   rintro e w4 ⟨rfl, h4⟩
   refine ⟨_, rfl, ?_⟩
   have hB4 : Below (w2.heap.size + 1) (w2.alloc (.cells #[.int .u32 a0_0, .int .u32 a0_1, .int .i64 a0_2, .slice A0_3 l0_3.length c0_3, .slice A0_4 l0_4.length c0_4] 44)) w4 := by rw [h4]; have := below_alloc' (Below.refl _ (w2.alloc (.cells #[.int .u32 a0_0, .int .u32 a0_1, .int .i64 a0_2, .slice A0_3 l0_3.length c0_3, .slice A0_4 l0_4.length c0_4] 44))) (.cells #[.bool false] 4); simpa using this
   have hB4' : Below (w2.alloc (.cells #[.int .u32 a0_0, .int .u32 a0_1, .int .i64 a0_2, .slice A0_3 l0_3.length c0_3, .slice A0_4 l0_4.length c0_4] 44)).heap.size (w2.alloc (.cells #[.int .u32 a0_0, .int .u32 a0_1, .int .i64 a0_2, .slice A0_3 l0_3.length c0_3, .slice A0_4 l0_4.length c0_4] 44)) w4 := by simpa using hB4
   have hb4 : w4.heap[w2.heap.size + 1]? = some (.cells #[.bool false] 4 (0, 0)) := by rw [h4]; have := boxc_new (w2.alloc (.cells #[.int .u32 a0_0, .int .u32 a0_1, .int .i64 a0_2, .slice A0_3 l0_3.length c0_3, .slice A0_4 l0_4.length c0_4] 44)) #[.bool false] 4; simpa using this
   refine hK.out _ _ (boxc_below hHeld hB4') (fun hHeld => ?_)
   clear hK K
   have hc := hcont (w2.heap.size + 1, w2.heap.size) _ ⟨hHeld, below_call (below_alloc' n0_.out _) hB4', hb4, boxc_below (boxc_new w2 _ _) hB4'⟩
   refine norm_ ?_ hc
   simp only [World.size_alloc, putAll, Act.put, List.setIfInBounds_toArray, List.set_cons_zero, List.set_cons_succ, i64_w, i32_w]
end Go.Proofs.YtoimgijhekahhaaGreat.P

-- Laid by a program of this session: the walk of functions of the translation, for this claim.
import Derived.Test.YtoimgijhekahhaaGreatPx0
import Derived.Test.YtoimgijhekahhaaGreatPx5
import Derived.Test.YtoimgijhekahhaaGreatStep
import Derived.Test.YtoimgijhekahhaaGreatPx6
namespace Go.Proofs.YtoimgijhekahhaaGreat.P
open Go.RowKit Go.Proofs.YtoimgijhekahhaaGreatOwn Go.Proofs.YtoimgijhekahhaaGreatW.PrintWords Go.Proofs.YtoimgijhekahhaaGreatW.PrintLast Go.Proofs.YtoimgijhekahhaaGreatW.PrintMore
attribute [local go_sem] max2_int min2_int max_two min_two max_three min_three max_four min_four
set_option linter.unusedVariables false
set_option linter.unusedSimpArgs false
theorem infoN9 : (Tryz.prog.info? 44).map (fun i => (i.zero, i.size, i.bytes)) = some (some (.agg #[(.int .u32 0), (.int .u32 0), (.int .i64 0), (.slice none 0 0), (.slice none 0 0)]), 5, 64) := by kernel_rfl
def encR (x : S37) : List Value := [.int .u64 x.f0, .int .u32 x.f1, .int .u32 x.f2, .string x.f3]
theorem encR_len (x : S37) : (encR x).length = 4 := rfl
theorem encR_flat : ∀ (l : List S37), (l.flatMap encR).length = l.length * 4
 | [] => by simp
 | a :: l => by rw [List.flatMap_cons, List.length_append, encR_len, encR_flat l, List.length_cons]; omega
theorem encR_at : ∀ (l : List S37) (j : Nat) (p : S37), l[j]? = some p → ((l.flatMap encR).drop (j * 4)).take 4 = encR p
 | a :: l, 0, p, h => by
  simp only [List.getElem?_cons_zero, Option.some.injEq] at h
  subst h
  rw [List.flatMap_cons, Nat.zero_mul, List.drop_zero]
  exact List.take_left' rfl
 | a :: l, j + 1, p, h => by
  rw [List.getElem?_cons_succ] at h
  rw [List.flatMap_cons, show (j + 1) * 4 = (encR a).length + j * 4 by rw [encR_len]; omega, List.drop_length_add_append]
  exact encR_at l j p h
theorem R_flat {W : World} {base : Nat} {v : Value} {l : List S37} (h : W.ownsRow base 37 4 v l.length (l.flatMap encR)) : Kd.R k37 37 W base (fun _ => True) v l :=
 ⟨fun _ _ => trivial, l.flatMap encR, h, encR_flat l, fun j p hj => by
  show k37.M W base _ p (((l.flatMap encR).drop (j * 4)).take 4)
  rw [encR_at l j p hj]
  exact k37_mkM _ _ _ p⟩
theorem k37_keep9 {w W : World} {x : S37} {cs : List Value} {base : Nat} {okp : Nat → Prop} (h : k37.K w x cs) : k37.M W base okp x cs := by
 obtain rfl := k37_open h
 exact k37_mkM _ _ _ x
theorem R_setc {α : Type} {d : Kd α} {e : Nat} {W : World} {base : Nat} {ok : Nat → Prop} {v : Value} {xs : List α} (h : d.R e W base ok v xs) {g : Nat} (hg : g < base) (o : Nat) (u : Value) : d.R e (W.setCell ⟨g, o, none⟩ u) base ok v xs :=
 Kd.R_mono (Kd.R_far (p := ⟨g, o, none⟩) (Kd.R_bound h) (fun k hk => by have := hk.2.1; show k ≠ g; omega) u) (fun _ hk => hk.1)
theorem results_c1 {P : Program} {fn : Func} {p : Tmp} {ty : TypeId} (h : fn.results = #[.cell p ty]) (tmps : Array Value) (w : World) (g : Nat) (t : TypeId) (cs : Array Value) (fr : Nat × Nat) (d : TypeDesc)
  (hp : tmps.getD p undef = .pointer (some ⟨g, 0, none⟩)) (hg : w.heap[g]? = some (.cells cs t fr))
  (hu : P.underlying ty = some d) (hd : (match d with | .struct _ | .array _ _ => true | _ => false) = true) (hi : (P.info? ty).map (·.size) = some cs.size) :
  (results fn tmps).run P w = .ok (.agg cs) w := by
 have hp' : tmps[p]?.getD undef = .pointer (some ⟨g, 0, none⟩) := by simpa using hp
 simp [results, h, hp', asAddr, run_loadVar_row w g t ty cs fr d hg hu hd hi]
def whereP (c : Int × Int × Int) (r : S37) : Int := match cell_Where.f c.1 c.2.1 c.2.2 r.f1 r.f2 with | some q => q.1 | none => -1
def partP (c : Int × Int × Int) (l : List S37) (i : Nat) : List S37 := l.filter fun r => whereP c r == (i : Int)
abbrev Nod := Int × Int × Int × List S37 × List S44
def mkNode (q : Nod) : S44 := ⟨⟨q.1, q.2.1, q.2.2.1⟩, q.2.2.2.1, q.2.2.2.2⟩
def kidsP (t : List S37 → Option Nod) : List (List S37) → Option (List S44)
 | [] => some []
 | p :: ps => if p = [] then kidsP t ps else (t p).bind fun q => (kidsP t ps).map (mkNode q :: ·)
instance : DecidableEq S37 := fun a b => if h : a.f0 = b.f0 ∧ a.f1 = b.f1 ∧ a.f2 = b.f2 ∧ a.f3 = b.f3 then .isTrue (by cases a; cases b; simp_all) else .isFalse (fun e => h (by subst e; simp))
def quad_tree.f : Nat → List S37 → Option Nod
 | 0, _ => none
 | k + 1, l => if l = [] then some (0, 0, 0, [], []) else (quad_around.f k l).bind fun c =>
   if l.length ≤ 1000 then
    if l.length ≤ 4 ∨ c.2.2 = 0 then some (c.1, c.2.1, c.2.2, l, [])
    else if ∀ r ∈ l, 0 ≤ whereP c r ∧ whereP c r < 4 then (kidsP (quad_tree.f k) [partP c l 0, partP c l 1, partP c l 2, partP c l 3]).map fun ks => (c.1, c.2.1, c.2.2, [], ks)
    else none
   else none
theorem kidsP_mono {t t' : List S37 → Option Nod} (h : ∀ p, LeO (t p) (t' p)) : ∀ ps, LeO (kidsP t ps) (kidsP t' ps)
 | [] => LeO.refl _
 | p :: ps => by
  unfold kidsP
  exact LeO.ite (kidsP_mono h ps) (LeO.bind (h p) (fun q => LeO.map _ (kidsP_mono h ps)))
theorem quad_tree.mono : ∀ (a0 : List S37) (k : Nat), LeO (quad_tree.f k a0) (quad_tree.f (k + 1) a0)
 | a0, 0 => LeO.none _
 | a0, k + 1 => by
  rw [quad_tree.f, quad_tree.f]
  refine LeO.ite (LeO.refl _) (LeO.bind (quad_around.mono a0 k) (fun c => LeO.ite (LeO.ite (LeO.refl _) (LeO.ite (LeO.map _ (kidsP_mono (fun p => quad_tree.mono p k) _)) (LeO.refl _))) (LeO.refl _)))
set_option maxRecDepth 100000 in
set_option maxHeartbeats 4000000 in
theorem clone_calls (A0 : Option Addr) (c0 : Nat) (l0 : List S37) (n : Nat) (hn : n = l0.length) (w : World) (hr0 : Kd.C k37 w A0 l0.length l0) (hlen : l0.length ≤ 1000) :
  Calls Tryz.prog 42 #[.slice A0 n c0] w fun e w' => ∃ v, e = .returned v ∧ Kd.R k37 37 w' w.heap.size (fun _ => True) v l0 ∧ Below w.heap.size w w' := by
 subst hn
 have HR0 := Aside0.mk hr0
 clear hr0
 have q22 : ∀ (w : World) (a : Option Addr) (n c n' c' : Nat), (binOp .eql 22 (.slice a n c) (.slice none n' c')).run Tryz.prog w = .ok (.bool a.isNone) w := fun w a n c n' c' => Lib.run_eql_slice_nil w _ _ a n c n' c' Tryz.underlying22
 rcases A0 with _ | ad
 ·have h0 : l0 = [] := by
   rcases Nat.eq_zero_or_pos l0.length with h | h
   ·exact List.eq_nil_of_length_eq_zero h
   ·obtain ⟨_, h, _⟩ := HR0.out.2.2 h; cases h
  subst h0
  go_enter Tryz.func42, Tryz.ntmps42
  go_wp2
  go_ret
  exact ⟨_, rfl, Kd.R_nil _ _ _ _ _, Below.refl _ _⟩
 ·go_enter Tryz.func42, Tryz.ntmps42
  go_wp2_with ((with_reducible refine gate_builtin (b := .append) (xs := #[.tmp 5, .tmp 6]) rfl ?_); at_builtin; refine Kd.R_append_rows k37 (Rr := k37.K w) (w0 := w) w.heap.size rfl (.tmp 5) (.tmp 6) 22 37 (.agg #[(.int .u64 0), (.int .u32 0), (.int .u32 0), (.string ⟨#[]⟩)]) 32 rfl Tryz.underlying22 info37 rfl (by decide) (by omega) (.slice (some ⟨w.heap.size, 0, none⟩) 0 0) [] l0 (some ad) l0.length c0 (fun _ => True) (fun _ => False) rfl rfl ?aO ?aR (fun x cs h => k37_keep9 h) (fun _ hk => hk.elim) (fun _ _ => trivial) ?aB ?aS ?aL ?_; (case aO => exact ⟨fun _ _ => trivial, [], World.ownsRow_made w #[] 0 (Nat.le_refl _) (Nat.zero_le _) rfl, Reps.none _ _⟩); (case aR => exact ReadsRow.imp_ HR0.out (below_alloc' (Below.refl _ w) _) (fun _ _ h => h)); (case aB => exact below_alloc' (Below.refl _ w) _); (case aS => simp); (case aL => simp; omega); intro v1 w1 ho hb hg hat)
  go_ret
  exact ⟨_, rfl, by simpa using ho, hb⟩
abbrev TreePost (w : World) (q : Nod) (e : Ending) (w' : World) : Prop := ∃ v3_ v4_ : Value, e = .returned (.agg #[.int .u32 q.1, .int .u32 q.2.1, .int .i64 q.2.2.1, v3_, v4_]) ∧ Kd.R k37 37 w' w.heap.size (fun _ => True) v3_ q.2.2.2.1 ∧ Kd.R k44 44 w' w.heap.size (fun k_ => some k_ ≠ (v3_ : Value).ownBlock) v4_ q.2.2.2.2 ∧ Below w.heap.size w w'
set_option maxRecDepth 100000 in
set_option maxHeartbeats 4000000 in
theorem tree_nil (A0 : Option Addr) (c0 : Nat) (w : World) : Calls Tryz.prog 24 #[.slice A0 0 c0] w (TreePost w (0, 0, 0, [], [])) := by
 have hu := Tryz.underlying44
 go_enter Tryz.func24, Tryz.ntmps24
 go_wp2
 refine bodyPost_ret (v := .agg #[.int .u32 0, .int .u32 0, .int .i64 0, .slice none 0 0, .slice none 0 0]) (by simp [results, Tryz.results24, go_sem]) rfl ?_
 exact ⟨_, _, rfl, Kd.R_nil _ _ _ _ _, Kd.R_nil _ _ _ _ _, (below_alloc' (Below.refl _ w) _)⟩
set_option maxRecDepth 100000 in
set_option maxHeartbeats 4000000 in
theorem tree_leaf (k : Nat) (A0 : Option Addr) (c0 : Nat) (l : List S37) (c : Int × Int × Int) (w : World) (hr0 : Kd.C k37 w A0 l.length l) (hc0 : l.length ≤ c0) (hpos : 0 < l.length) (hlen : l.length ≤ 1000) (ha : quad_around.f k l = some c) (hleaf : l.length ≤ 4 ∨ c.2.2 = 0) :
  Calls Tryz.prog 24 #[.slice A0 l.length c0] w (TreePost w (c.1, c.2.1, c.2.2, l, [])) := by
 have hu := Tryz.underlying44
 have HR0 := Aside0.mk hr0
 have HC0 := Aside0.mk hc0
 have HA := Aside0.mk ha
 clear hr0 hc0 ha
 obtain ⟨x, y, lv⟩ := c
 dsimp only at hleaf HA ⊢
 have hne : ((l.length : Int) == 0) = false := beq_eq_false_iff_ne.2 (by omega)
 by_cases h4 : l.length ≤ 4
 ·have h4b : decide ((l.length : Int) ≤ 4) = true := decide_eq_true (by omega)
  clear hleaf
  go_enter Tryz.func24, Tryz.ntmps24
  go_wp2_with fail
  refine (quad_around.calls k A0 c0 l x y lv _ (Kd.C_alloc HR0.out _) HC0.out HA.out).mono ?_
  rintro e1 w1 ⟨rfl, hb1⟩
  have HB1 := Aside0.mk (below_call (below_alloc' (Below.refl _ w) _) hb1)
  have hz1 := hb1.size
  simp only [World.size_alloc] at hz1
  have B2 := boxc_below (boxc_new w #[.int .u32 0, .int .u32 0, .int .i64 0, .slice none 0 0, .slice none 0 0] 44) hb1
  clear hb1
  go_wp2_with fail
  refine (clone_calls A0 c0 l _ rfl _ (Kd.C_alloc (Kd.C_below HR0.out (HB1.out.mono (Nat.le_refl _))) _) hlen).mono ?_
  rintro e2 w2 ⟨v, rfl, hR, hb2⟩
  obtain ⟨A2, c2, rfl⟩ := Kd.R_slice hR
  have b2 := boxc_below (boxc_alloc B2 (.cells #[.int .u32 x, .int .u32 y, .int .i64 lv, .slice none 0 0, .slice none 0 0] 44)) hb2
  have b3 := boxc_below (boxc_new w1 #[.int .u32 x, .int .u32 y, .int .i64 lv, .slice none 0 0, .slice none 0 0] 44) hb2
  have hz2 := hb2.size
  simp only [World.size_alloc] at hz2
  have HB2 := Aside0.mk (below_call (below_alloc' HB1.out (.cells #[.int .u32 x, .int .u32 y, .int .i64 lv, .slice none 0 0, .slice none 0 0] 44)) hb2)
  have HR2 := Aside0.mk hR
  have hne2 : w.heap.size ≠ w1.heap.size := by omega
  have hne3 : w1.heap.size ≠ w.heap.size := by omega
  have c20 := boxc_cell b2 0
  have c21 := boxc_cell b2 1
  have c22 := boxc_cell b2 2
  have c23 := boxc_cell b2 3
  have c24 := boxc_cell b2 4
  have c30 := boxc_cell b3 0
  have c31 := boxc_cell b3 1
  have c32 := boxc_cell b3 2
  have c33 := boxc_cell b3 3
  have c34 := boxc_cell b3 4
  have z2 := fun i => boxc_frozen b2 i
  have z3 := fun i => boxc_frozen b3 i
  have BB := Aside0.mk b2
  have HZ := Aside0.mk (show w.heap.size < w1.heap.size by omega)
  clear hb2 hR B2 b2 b3 hz1 hz2
  go_wp2
  have b4 := blk_far BB.out (p := ⟨w1.heap.size, 3, none⟩) hne2 (.slice A2 l.length c2)
  have b5 := blk_set (blk_set (blk_set (blk_set (blk_set b4 0 (.int .u32 x)) 1 (.int .u32 y)) 2 (.int .i64 lv)) 3 (.slice A2 l.length c2)) 4 (.slice none 0 0)
  refine bodyPost_ret (results_c1 rfl _ _ w.heap.size 44 #[.int .u32 x, .int .u32 y, .int .i64 lv, .slice A2 l.length c2, .slice none 0 0] (0, 0) _ rfl (by simpa using b5) hu rfl (by kernel_rfl)) rfl ?_
  have h1 := HZ.out
  have hbs : ∀ {W : World} (g o : Nat) (u : Value), w.heap.size ≤ g → Below w.heap.size w W → Below w.heap.size w (W.setCell ⟨g, o, none⟩ u) := fun g o u hg h => h.setCell hg u
  refine ⟨_, _, rfl, Kd.R_lower (base' := w.heap.size) (R_setc (R_setc (R_setc (R_setc (R_setc (R_setc HR2.out (by simp) 3 _) (by simp; omega) 0 _) (by simp; omega) 1 _) (by simp; omega) 2 _) (by simp; omega) 3 _) (by simp; omega) 4 _) (by simp; omega), Kd.R_nil _ _ _ _ _, ?_⟩
  exact hbs _ _ _ (Nat.le_refl _) (hbs _ _ _ (Nat.le_refl _) (hbs _ _ _ (Nat.le_refl _) (hbs _ _ _ (Nat.le_refl _) (hbs _ _ _ (Nat.le_refl _) (hbs _ _ _ (by omega) HB2.out)))))
 ·have h4b : decide ((l.length : Int) ≤ 4) = false := decide_eq_false (by omega)
  obtain rfl : lv = 0 := hleaf.resolve_left h4
  clear hleaf
  go_enter Tryz.func24, Tryz.ntmps24
  go_wp2_with fail
  refine (quad_around.calls k A0 c0 l x y 0 _ (Kd.C_alloc HR0.out _) HC0.out HA.out).mono ?_
  rintro e1 w1 ⟨rfl, hb1⟩
  have HB1 := Aside0.mk (below_call (below_alloc' (Below.refl _ w) _) hb1)
  have hz1 := hb1.size
  simp only [World.size_alloc] at hz1
  have B2 := boxc_below (boxc_new w #[.int .u32 0, .int .u32 0, .int .i64 0, .slice none 0 0, .slice none 0 0] 44) hb1
  clear hb1
  go_wp2_with fail
  refine (clone_calls A0 c0 l _ rfl _ (Kd.C_alloc (Kd.C_below HR0.out (HB1.out.mono (Nat.le_refl _))) _) hlen).mono ?_
  rintro e2 w2 ⟨v, rfl, hR, hb2⟩
  obtain ⟨A2, c2, rfl⟩ := Kd.R_slice hR
  have b2 := boxc_below (boxc_alloc B2 (.cells #[.int .u32 x, .int .u32 y, .int .i64 0, .slice none 0 0, .slice none 0 0] 44)) hb2
  have b3 := boxc_below (boxc_new w1 #[.int .u32 x, .int .u32 y, .int .i64 0, .slice none 0 0, .slice none 0 0] 44) hb2
  have hz2 := hb2.size
  simp only [World.size_alloc] at hz2
  have HB2 := Aside0.mk (below_call (below_alloc' HB1.out (.cells #[.int .u32 x, .int .u32 y, .int .i64 0, .slice none 0 0, .slice none 0 0] 44)) hb2)
  have HR2 := Aside0.mk hR
  have hne2 : w.heap.size ≠ w1.heap.size := by omega
  have hne3 : w1.heap.size ≠ w.heap.size := by omega
  have c20 := boxc_cell b2 0
  have c21 := boxc_cell b2 1
  have c22 := boxc_cell b2 2
  have c23 := boxc_cell b2 3
  have c24 := boxc_cell b2 4
  have c30 := boxc_cell b3 0
  have c31 := boxc_cell b3 1
  have c32 := boxc_cell b3 2
  have c33 := boxc_cell b3 3
  have c34 := boxc_cell b3 4
  have z2 := fun i => boxc_frozen b2 i
  have z3 := fun i => boxc_frozen b3 i
  have BB := Aside0.mk b2
  have HZ := Aside0.mk (show w.heap.size < w1.heap.size by omega)
  clear hb2 hR B2 b2 b3 hz1 hz2
  go_wp2
  have b4 := blk_far BB.out (p := ⟨w1.heap.size, 3, none⟩) hne2 (.slice A2 l.length c2)
  have b5 := blk_set (blk_set (blk_set (blk_set (blk_set b4 0 (.int .u32 x)) 1 (.int .u32 y)) 2 (.int .i64 0)) 3 (.slice A2 l.length c2)) 4 (.slice none 0 0)
  refine bodyPost_ret (results_c1 rfl _ _ w.heap.size 44 #[.int .u32 x, .int .u32 y, .int .i64 0, .slice A2 l.length c2, .slice none 0 0] (0, 0) _ rfl (by simpa using b5) hu rfl (by kernel_rfl)) rfl ?_
  have h1 := HZ.out
  have hbs : ∀ {W : World} (g o : Nat) (u : Value), w.heap.size ≤ g → Below w.heap.size w W → Below w.heap.size w (W.setCell ⟨g, o, none⟩ u) := fun g o u hg h => h.setCell hg u
  refine ⟨_, _, rfl, Kd.R_lower (base' := w.heap.size) (R_setc (R_setc (R_setc (R_setc (R_setc (R_setc HR2.out (by simp) 3 _) (by simp; omega) 0 _) (by simp; omega) 1 _) (by simp; omega) 2 _) (by simp; omega) 3 _) (by simp; omega) 4 _) (by simp; omega), Kd.R_nil _ _ _ _ _, ?_⟩
  exact hbs _ _ _ (Nat.le_refl _) (hbs _ _ _ (Nat.le_refl _) (hbs _ _ _ (Nat.le_refl _) (hbs _ _ _ (Nat.le_refl _) (hbs _ _ _ (Nat.le_refl _) (hbs _ _ _ (by omega) HB2.out)))))
structure PartsAt (c : Int × Int × Int) (l : List S37) (j base bp : Nat) (cs : Array Value) (V : World) : Prop where
 b : V.heap[bp]? = some (.cells cs 73 (0, 0))
 z : cs.size = 4
 p : ∀ (i : Nat) (u : Value), cs[i]? = some u → Kd.R k37 37 V base (fun _ => True) u (partP c (l.take j) i)
 q : ∀ (i i' : Nat) (u u' : Value), i ≠ i' → cs[i]? = some u → cs[i']? = some u' → ∀ k, u.ownBlock = some k → u'.ownBlock ≠ some k
theorem PartsAt.step {c : Int × Int × Int} {l : List S37} {j base bp i : Nat} {cs : Array Value} {W w1 : World} {u v1 : Value} {r : S37} (h : PartsAt c l j base bp cs W) (hi : i < 4) (hu : cs[i]? = some u) (hr : l[j]? = some r) (hw : whereP c r = (i : Int))
  (ho : Kd.R k37 37 w1 base (fun _ => True) v1 (partP c (l.take j) i ++ [r])) (hg : W.grownBy w1 u.ownBlock) (hat : v1.ownBlock = u.ownBlock ∨ ∃ b, v1.ownBlock = some b ∧ W.heap.size ≤ b) :
  PartsAt c l (j + 1) base bp (cs.setIfInBounds i v1) (w1.setCell ⟨bp, i, none⟩ v1) := by
 have hb1 : w1.heap[bp]? = some (.cells cs 73 (0, 0)) := blk_grown h.b hg (Kd.R_ne (h.p i u hu) h.b (by decide))
 have htk : l.take (j + 1) = l.take j ++ [r] := by rw [List.take_add_one, hr]; rfl
 have hsame : partP c (l.take (j + 1)) i = partP c (l.take j) i ++ [r] := by unfold partP; rw [htk, List.filter_append]; simp [hw]
 have hoth : ∀ i', i' ≠ i → partP c (l.take (j + 1)) i' = partP c (l.take j) i' := fun i' hne => by unfold partP; rw [htk, List.filter_append]; simp [hw]; omega
 refine ⟨by have := blk_set hb1 i v1; simpa using this, by simp [h.z], ?_, ?_⟩
 ·intro i' u' hu'
  by_cases e : i' = i
  ·subst e
   rw [Array.getElem?_setIfInBounds_self, if_pos (by rw [h.z]; exact hi)] at hu'
   cases hu'
   rw [hsame]
   exact Kd.R_set ho hb1 (by decide) i' v1
  ·rw [Array.getElem?_setIfInBounds_ne (Ne.symm e)] at hu'
   rw [hoth i' e]
   exact Kd.R_set (Kd.R_grown2 (h.p i' u' hu') rfl hg (fun k hk hk' => h.q i i' u u' (Ne.symm e) hu hu' k hk hk'.symm)) hb1 (by decide) i v1
 ·intro a b x y hne hx hy k hk hk'
  by_cases ea : a = i
  ·subst ea
   rw [Array.getElem?_setIfInBounds_self, if_pos (by rw [h.z]; exact hi)] at hx
   cases hx
   rw [Array.getElem?_setIfInBounds_ne hne] at hy
   rcases hat with hat | ⟨b', hb', hle⟩
   ·rw [hat] at hk; exact h.q _ _ _ _ hne hu hy k hk hk'
   ·rw [hb'] at hk; cases hk; have := Kd.R_lt (h.p _ _ hy) _ hk'; omega
  ·rw [Array.getElem?_setIfInBounds_ne (Ne.symm ea)] at hx
   by_cases eb : b = i
   ·subst eb
    rw [Array.getElem?_setIfInBounds_self, if_pos (by rw [h.z]; exact hi)] at hy
    cases hy
    rcases hat with hat | ⟨b', hb', hle⟩
    ·rw [hat] at hk'; exact h.q _ _ _ _ hne hx hu k hk hk'
    ·rw [hb'] at hk'; cases hk'; have := Kd.R_lt (h.p _ _ hx) _ hk; omega
   ·rw [Array.getElem?_setIfInBounds_ne (Ne.symm eb)] at hy
    exact h.q _ _ _ _ hne hx hy k hk hk'
theorem PartsAt.below {c : Int × Int × Int} {l : List S37} {j base bp : Nat} {cs : Array Value} {W w1 : World} (h : PartsAt c l j base bp cs W) (hb : Below W.heap.size W w1) : PartsAt c l j base bp cs w1 :=
 ⟨blk_below h.b hb, h.z, fun i u hu => Kd.R_below (h.p i u hu) hb, h.q⟩
theorem PartsAt.alloc {c : Int × Int × Int} {l : List S37} {j base bp : Nat} {cs : Array Value} {W : World} (h : PartsAt c l j base bp cs W) (o : Obj) : PartsAt c l j base bp cs (W.alloc o) := h.below (below_alloc' (Below.refl _ W) _)
theorem PartsAt.drew {c : Int × Int × Int} {l : List S37} {j base bp : Nat} {cs : Array Value} {W : World} (h : PartsAt c l j base bp cs W) : PartsAt c l j base bp cs W.drew := h.below (below_drew (Below.refl _ W))
theorem PartsAt.grown {c : Int × Int × Int} {l : List S37} {j base bp : Nat} {cs : Array Value} {W w1 : World} {row : Option Nat} (h : PartsAt c l j base bp cs W) (hg : W.grownBy w1 row) (hr : ∀ k, row = some k → ∃ cells, W.heap[k]? = some (.cells cells 44 (0, 0))) : PartsAt c l j base bp cs w1 :=
 ⟨blk_grown h.b hg (fun e => by obtain ⟨cells, hc⟩ := hr bp e.symm; rw [h.b] at hc; cases hc), h.z, fun i u hu => Kd.R_grown2 (h.p i u hu) rfl hg (fun k hk hk' => by obtain ⟨x1, h1⟩ := hr k hk; obtain ⟨x2, h2⟩ := Kd.R_typed (h.p i u hu) k hk'.symm; rw [h1] at h2; cases h2), h.q⟩
theorem PartsAt.set {c : Int × Int × Int} {l : List S37} {j base bp : Nat} {cs : Array Value} {W : World} (h : PartsAt c l j base bp cs W) {g : Nat} {cells : Array Value} (hb : W.heap[g]? = some (.cells cells 44 (0, 0))) (o : Nat) (x : Value) : PartsAt c l j base bp cs (W.setCell ⟨g, o, none⟩ x) :=
 ⟨blk_far h.b (blk_ne h.b hb (by decide)) x, h.z, fun i u hu => Kd.R_set (h.p i u hu) hb (by decide) o x, h.q⟩
def tree_T12 : Bool × List (List Nat × List Nat) := (true, [([], []), ([], []), ([1], [1]), ([2], [2]), ([], []), ([4], [4]), ([3, 5], [3, 5]), ([0, 0, 1, 2, 3, 4, 5, 6], [0]), ([7, 6, 6, 0, 1, 2, 3, 4, 5, 6], [6, 7])])
def tree_B12 : List Nat := [0, 0, 2, 6, 0, 16, 62, 127, 255]
theorem tree_tab12 : rtab .any (opsOf Tryz.f24 12) = tree_T12 := by kernel_rfl
theorem tree_bits12 : waitsOk tree_T12.2 tree_B12 = true := by kernel_rfl
def tree_T18 : Bool × List (List Nat × List Nat) := (true, [([], []), ([0], [0]), ([], []), ([2], [2]), ([3], [3]), ([1, 4, 3], [1, 4]), ([0, 1, 2, 3, 4, 5], []), ([6, 5, 5, 0, 1, 2, 3, 4, 5], [5, 6])])
def tree_B18 : List Nat := [0, 1, 0, 4, 12, 31, 63, 127]
theorem tree_tab18 : rtab .any (opsOf Tryz.f24 18) = tree_T18 := by kernel_rfl
theorem tree_bits18 : waitsOk tree_T18.2 tree_B18 = true := by kernel_rfl
theorem four_of {cs : Array Value} (h : cs.size = 4) : ∃ a b c d, cs = #[a, b, c, d] := by
 obtain ⟨l⟩ := cs
 match l, h with
 | [a, b, c, d], _ => exact ⟨a, b, c, d, rfl⟩
set_option maxRecDepth 100000 in
set_option maxHeartbeats 8000000 in
theorem tree_go (k : Nat) (ih : ∀ (A0 : Option Addr) (c0 : Nat) (l : List S37) (q : Nod) (w : World), Kd.C k37 w A0 l.length l → l.length ≤ c0 → quad_tree.f k l = some q → Calls Tryz.prog 24 #[.slice A0 l.length c0] w (TreePost w q))
  (A0 : Option Addr) (c0 : Nat) (l : List S37) (c : Int × Int × Int) (w : World) (hr0 : Kd.C k37 w A0 l.length l) (hc0 : l.length ≤ c0) (h4 : ¬ l.length ≤ 4) (hlv : c.2.2 ≠ 0) (hlen : l.length ≤ 1000) (ha : quad_around.f k l = some c)
  (hwh : ∀ r ∈ l, 0 ≤ whereP c r ∧ whereP c r < 4) (hwf : ∀ r ∈ l, ∃ q, cell_Where.f c.1 c.2.1 c.2.2 r.f1 r.f2 = some q) (ks : List S44) (hks : kidsP (quad_tree.f k) [partP c l 0, partP c l 1, partP c l 2, partP c l 3] = some ks) :
  Calls Tryz.prog 24 #[.slice A0 l.length c0] w (TreePost w (c.1, c.2.1, c.2.2, [], ks)) := by
 have hu := Tryz.underlying44
 have HR0 := Aside0.mk hr0
 have HC0 := Aside0.mk hc0
 have HA := Aside0.mk ha
 have HWH := Aside0.mk hwh
 have HWF := Aside0.mk hwf
 have HK := Aside0.mk hks
 have HIH := Aside0.mk ih
 clear hr0 hc0 ha hwh hwf hks ih
 obtain ⟨x, y, lv⟩ := c
 dsimp only at hlv HA HWH HWF HK ⊢
 have hne : ((l.length : Int) == 0) = false := beq_eq_false_iff_ne.2 (by omega)
 have h4b : decide ((l.length : Int) ≤ 4) = false := decide_eq_false (by omega)
 have hlvb : (lv == 0) = false := beq_eq_false_iff_ne.2 hlv
 go_enter Tryz.func24, Tryz.ntmps24
 go_wp2_with fail
 refine (quad_around.calls k A0 c0 l x y lv _ (Kd.C_alloc HR0.out _) HC0.out HA.out).mono ?_
 rintro e1 w1 ⟨rfl, hb1⟩
 have HB1 := Aside0.mk (below_call (below_alloc' (Below.refl _ w) _) hb1)
 have hz1 := hb1.size
 simp only [World.size_alloc] at hz1
 have b2 := boxc_alloc (boxc_below (boxc_new w #[.int .u32 0, .int .u32 0, .int .i64 0, .slice none 0 0, .slice none 0 0] 44) hb1) (.cells #[.int .u32 x, .int .u32 y, .int .i64 lv, .slice none 0 0, .slice none 0 0] 44)
 have b3 := boxc_new w1 #[.int .u32 x, .int .u32 y, .int .i64 lv, .slice none 0 0, .slice none 0 0] 44
 clear hb1
 go_wp2_with fail
 go_loopw [33] (fun i V => ∃ (j : Nat) (cs : Array Value), i = .int .i64 (j : Int) ∧ j ≤ l.length ∧ Aside0 (PartsAt (x, y, lv) l j w.heap.size (w1.heap.size + 1) cs V) ∧ Aside0 (Below w.heap.size w V) ∧ Aside0 (V.heap[w.heap.size]? = some (.cells #[.int .u32 0, .int .u32 0, .int .i64 0, .slice none 0 0, .slice none 0 0] 44 (0, 0))) ∧ Aside0 (V.heap[w1.heap.size]? = some (.cells #[.int .u32 x, .int .u32 y, .int .i64 lv, .slice none 0 0, .slice none 0 0] 44 (0, 0)))) (fun i _ => l.length - (intOf i).toNat)
 case atStart =>
  refine ⟨0, #[.slice none 0 0, .slice none 0 0, .slice none 0 0, .slice none 0 0], rfl, Nat.zero_le _, ⟨?_⟩, ⟨below_alloc' (below_alloc' HB1.out _) _⟩, ⟨blk_alloc b2 _⟩, ⟨blk_alloc b3 _⟩⟩
  have hnil : ∀ (i : Nat) (u : Value), (#[.slice none 0 0, .slice none 0 0, .slice none 0 0, .slice none 0 0] : Array Value)[i]? = some u → u = .slice none 0 0 := by
   intro i u h
   match i, h with
   | 0, h => simpa using h.symm
   | 1, h => simpa using h.symm
   | 2, h => simpa using h.symm
   | 3, h => simpa using h.symm
   | n + 4, h => simp at h
  refine ⟨by have := boxc_new (w1.alloc (.cells #[.int .u32 x, .int .u32 y, .int .i64 lv, .slice none 0 0, .slice none 0 0] 44)) #[.slice none 0 0, .slice none 0 0, .slice none 0 0, .slice none 0 0] 73; simpa using this, rfl, ?_, ?_⟩
  ·intro i u h
   rw [hnil i u h]
   exact Kd.R_nil _ _ _ _ _
  ·intro i i' u u' _ h _ k hk
   rw [hnil i u h] at hk
   cases hk
 case round =>
  obtain ⟨j, cs, rfl, hj, hP, hB, h2, h3⟩ := hrel
  clear b2 b3
  by_cases hj2 : j < l.length
  ·obtain ⟨ad, e, r0, r1, r2, r3⟩ := at_T37 HR0.out (j : Int) (by omega) (by omega)
   cases e
   simp only [Int.toNat_natCast] at r0 r1 r2 r3
   have hrn : rd_T37 l (j : Int) = l[j] := by unfold rd_T37; simp [List.getD, hj2]
   have hget : l[j]? = some (rd_T37 l (j : Int)) := by rw [hrn]; exact List.getElem?_eq_getElem hj2
   have hmem : rd_T37 l (j : Int) ∈ l := by rw [hrn]; exact List.getElem_mem hj2
   generalize hr : rd_T37 l (j : Int) = r at *
   clear hrn hr
   replace r0 := (hB.out.cell (World.block_lt_of_cell? w _ r0)).trans r0
   replace r1 := (hB.out.cell (World.block_lt_of_cell? w _ r1)).trans r1
   replace r2 := (hB.out.cell (World.block_lt_of_cell? w _ r2)).trans r2
   replace r3 := (hB.out.cell (World.block_lt_of_cell? w _ r3)).trans r3
   obtain ⟨⟨qi, qe⟩, hwhere⟩ := HWF.out r hmem
   have hwp : whereP (x, y, lv) r = qi := by unfold whereP; rw [hwhere]
   obtain ⟨i, hi, rfl⟩ : ∃ i : Nat, i < 4 ∧ qi = (i : Int) := ⟨qi.toNat, by have := HWH.out r hmem; rw [hwp] at this; omega, by have := HWH.out r hmem; rw [hwp] at this; omega⟩
   obtain ⟨u, hu4⟩ : ∃ u, cs[i]? = some u := ⟨_, Array.getElem?_eq_getElem (by rw [hP.out.z]; exact hi)⟩
   have HGET := Aside0.mk hget
   have HWP := Aside0.mk hwp
   have HU4 := Aside0.mk hu4
   have HNE := Aside0.mk (show some wr.heap.size ≠ u.ownBlock from fun e => by have := Kd.R_lt (hP.out.p i u hu4) _ e.symm; omega)
   have HN2 := Aside0.mk (show some w.heap.size ≠ u.ownBlock from Kd.R_ne (hP.out.p i u hu4) h2.out (by decide))
   have HN3 := Aside0.mk (show some w1.heap.size ≠ u.ownBlock from Kd.R_ne (hP.out.p i u hu4) h3.out (by decide))
   have m0 := boxc_cell (boxc_alloc h3.out (.cells #[.int .u64 r.f0, .int .u32 r.f1, .int .u32 r.f2, .string r.f3] 37)) 0
   have m1 := boxc_cell (boxc_alloc h3.out (.cells #[.int .u64 r.f0, .int .u32 r.f1, .int .u32 r.f2, .string r.f3] 37)) 1
   have m2 := boxc_cell (boxc_alloc h3.out (.cells #[.int .u64 r.f0, .int .u32 r.f1, .int .u32 r.f2, .string r.f3] 37)) 2
   clear hget hwp hu4 hmem
   go_wp2_with fail
   refine (cell_Where.calls x y lv r.f1 r.f2 i qe _ hwhere).mono ?_
   rintro e w4 ⟨rfl, hb4⟩
   have n0_ := Aside0.mk ((hP.out.alloc (.cells #[.int .u64 r.f0, .int .u32 r.f1, .int .u32 r.f2, .string r.f3] 37)).below hb4)
   have n1_ := Aside0.mk (below_call (below_alloc' hB.out (.cells #[.int .u64 r.f0, .int .u32 r.f1, .int .u32 r.f2, .string r.f3] 37)) hb4)
   have n2_ := Aside0.mk (boxc_below (boxc_alloc h2.out (.cells #[.int .u64 r.f0, .int .u32 r.f1, .int .u32 r.f2, .string r.f3] 37)) hb4)
   have n3_ := Aside0.mk (boxc_below (boxc_alloc h3.out (.cells #[.int .u64 r.f0, .int .u32 r.f1, .int .u32 r.f2, .string r.f3] 37)) hb4)
   have H6 := Aside0.mk (boxc_below (boxc_new wr #[.int .u64 r.f0, .int .u32 r.f1, .int .u32 r.f2, .string r.f3] 37) hb4)
   have hzr := hb4.size
   simp only [World.size_alloc] at hzr
   clear hP hB h2 h3 r0 r1 r2 r3 m0 m1 m2 hb4 hwhere
   have hP := n0_
   have hB := n1_
   have h2 := n2_
   have h3 := n3_
   clear n0_ n1_ n2_ n3_
   go_wp2_with fail
   have hi0 : (0 ≤ (i : Int)) = True := eq_true (by omega)
   have hi1 : ((i : Int) < 4) = True := eq_true (by omega)
   have hu87 := Tryz.underlying73
   refine start_ (n := 9) (S := fun w' => w'.cell? ⟨w1.heap.size + 1, i, none⟩ = some u ∧ w'.cell? ⟨wr.heap.size, 0, none⟩ = some (.int .u64 r.f0) ∧ w'.cell? ⟨wr.heap.size, 1, none⟩ = some (.int .u32 r.f1) ∧ w'.cell? ⟨wr.heap.size, 2, none⟩ = some (.int .u32 r.f2) ∧ w'.cell? ⟨wr.heap.size, 3, none⟩ = some (.string r.f3)) (ds := [8]) #[false, false, false, false, false, false, false, false, false] (by kernel_rfl) rfl rfl ⟨(blk_cell (blk_drew hP.out.b) i).trans HU4.out, (blk_cell (blk_drew H6.out) 0).trans rfl, (blk_cell (blk_drew H6.out) 1).trans rfl, (blk_cell (blk_drew H6.out) 2).trans rfl, (blk_cell (blk_drew H6.out) 3).trans rfl⟩ (fun hHeld => ?_); refine with_tabW tree_tab12 tree_bits12 (fun HT_ HW_ => ?_)
   have n0_ := Aside0.mk hP.out.drew
   have n1_ := Aside0.mk (below_drew1 hB.out)
   have n2_ := Aside0.mk (blk_drew h2.out)
   have n3_ := Aside0.mk (blk_drew h3.out)
   have n4_ := Aside0.mk (blk_drew H6.out)
   clear hP hB h2 h3 H6
   have hP := n0_
   have hB := n1_
   have h2 := n2_
   have h3 := n3_
   have H6 := n4_
   clear n0_ n1_ n2_ n3_ n4_
   generalize w4.drew = w5 at hP hB h2 h3 H6 hHeld ⊢
   refine pA 0 HT_ ?_
   refine pA 1 HT_ ?_
   refine pA 2 HT_ ?_
   refine tA 3 HT_ HW_ ?_
   refine tA 4 HT_ HW_ ?_
   refine oA 5 HT_ (fun K hK => ?_)
   refine value_ (w1 := ?_) (v := ?_) (by rfl) rfl ?_ ?_
   rotate_left 2
   ·go_simp
    constructor
    ·rfl
    ·rfl
   refine hK.out _ _ ⟨(blk_cell (blk_alloc hP.out.b _) i).trans HU4.out, (blk_cell (blk_alloc H6.out _) 0).trans rfl, (blk_cell (blk_alloc H6.out _) 1).trans rfl, (blk_cell (blk_alloc H6.out _) 2).trans rfl, (blk_cell (blk_alloc H6.out _) 3).trans rfl⟩ (fun hHeld => ?_)
   clear hK K
   refine norm_ (a' := ?_) ?_ ?_
   rotate_left
   ·show Act.put _ (some 52) _ = _
    simp only [Act.put, List.setIfInBounds_toArray, List.set_cons_zero, List.set_cons_succ, i64_w, i32_w]
    rfl
   refine oA 6 HT_ (fun K hK => ?_)
   refine Kd.R_append_step k37 (w0 := w) w.heap.size (by rfl) (.tmp 50) (.tmp 52) 22 37 (.agg #[(.int .u64 0), (.int .u32 0), (.int .u32 0), (.string ⟨#[]⟩)]) 32 rfl Tryz.underlying22 info37 rfl (by decide) (by omega) u (partP (x, y, lv) (l.take j) i) r [.int .u64 r.f0, .int .u32 r.f1, .int .u32 r.f2, .string r.f3] (fun _ => True) (fun _ => False) rfl rfl ?aP (fun _ hk => hk.elim) ?aF ?aO ?aB ?aS ?aL ?_
   (case aP => exact k37_mkM _ _ _ r)
   (case aB => exact hB.out)
   (case aF => exact (fun _ _ => trivial))
   (case aO => exact hP.out.p i u HU4.out)
   (case aS => exact hB.out.size)
   (case aL => have h1 := List.length_filter_le (fun r => whereP (x, y, lv) r == (i : Int)) (l.take j); have h2 := List.length_take_le j l; unfold partP; omega)
   intro v1 w6 ho hb hg hat
   have H7 := Aside0.mk (blk_grown H6.out hg HNE.out)
   have HP7 := Aside0.mk (blk_grown hP.out.b hg (Kd.R_ne (hP.out.p i u HU4.out) hP.out.b (by decide)))
   obtain ⟨A1, c1, e1⟩ := Kd.R_slice ho
   generalize (partP (x, y, lv) (l.take j) i ++ [r]).length = m1 at e1
   subst e1
   have HST := Aside0.mk (hP.out.step hi HU4.out HGET.out HWP.out ho hg hat)
   have n1_ := Aside0.mk hb
   have n2_ := Aside0.mk (blk_grown h2.out hg HN2.out)
   have n3_ := Aside0.mk (blk_grown h3.out hg HN3.out)
   clear ho hb hg hat hP hB h2 h3 H6
   refine hK.out _ _ ⟨(blk_cell (HP7.out) i).trans HU4.out, (blk_cell (H7.out) 0).trans rfl, (blk_cell (H7.out) 1).trans rfl, (blk_cell (H7.out) 2).trans rfl, (blk_cell (H7.out) 3).trans rfl⟩ (fun hHeld => ?_)
   clear hK K
   refine norm_ (a' := ?_) ?_ ?_
   rotate_left
   ·show Act.put _ (some 53) _ = _
    simp only [Act.put, List.setIfInBounds_toArray, List.set_cons_zero, List.set_cons_succ, i64_w, i32_w]
    rfl
   refine pA 7 HT_ ?_
   refine last_ (i := 8) (N := none) #[true, true, true, true, true, true, true, true, true] rfl rfl (one_of HT_.out (by kernel_rfl)) (by decide) (fun K hK => ?_)
   have hs7 : w6.cell? ⟨w1.heap.size + 1, i, none⟩ = some u := (blk_cell HP7.out i).trans HU4.out
   have hfs7 := blk_frozen HP7.out i
   refine skip_ (w1 := ?_) (by rfl) rfl ?_ ?_
   rotate_left
   ·go_simp
    rfl
   refine hK.out _ _ ?_
   clear hK K
   refine done_ (done_of HT_.out (by kernel_rfl)) ?_
   have hB := n1_
   have h2 := n2_
   have h3 := n3_
   clear n1_ n2_ n3_
   go_wp2_with fail
   go_roundw
   case rel =>
    refine ⟨j + 1, _, rfl, by omega, HST, ⟨hB.out.setCell (by have := hB.out.size; have := HB1.out.size; show w.heap.size ≤ w1.heap.size + 1; omega) _⟩, ⟨blk_far h2.out (by show w.heap.size ≠ w1.heap.size + 1; omega) _⟩, ⟨blk_far h3.out (by show w1.heap.size ≠ w1.heap.size + 1; omega) _⟩⟩
   case measure => simp [intOf]; omega
  ·obtain rfl : j = l.length := by omega
   obtain ⟨v0, v1, v2, v3, rfl⟩ := four_of hP.out.z
   have p0 := hP.out.p 0 v0 rfl
   have p1 := hP.out.p 1 v1 rfl
   have p2 := hP.out.p 2 v2 rfl
   have p3 := hP.out.p 3 v3 rfl
   rw [List.take_length] at p0 p1 p2 p3
   obtain ⟨B0, d0, e0⟩ := Kd.R_slice p0
   obtain ⟨B1, d1, e1⟩ := Kd.R_slice p1
   obtain ⟨B2, d2, e2⟩ := Kd.R_slice p2
   obtain ⟨B3, d3, e3⟩ := Kd.R_slice p3
   subst e0 e1 e2 e3
   have k0 := boxc_cell hP.out.b 0
   have k1 := boxc_cell hP.out.b 1
   have k2 := boxc_cell hP.out.b 2
   have k3 := boxc_cell hP.out.b 3
   have hu87 := Tryz.underlying73
   clear p0 p1 p2 p3
   go_wp2_with fail
   clear k0 k1 k2 k3
   have HPT := Aside0.mk (fun (i : Nat) (u : Value) h => (hP.out.q i · u · · h))
   go_loopw [57] (fun i V => ∃ (j : Nat) (ks1 ks2 : List S44) (vk : Value), i = .int .i64 (j : Int) ∧ j ≤ 4 ∧ Aside0 (ks1.length ≤ j) ∧ Aside0 (kidsP (quad_tree.f k) ([partP (x, y, lv) l 0, partP (x, y, lv) l 1, partP (x, y, lv) l 2, partP (x, y, lv) l 3].drop j) = some ks2) ∧ Aside0 (ks1 ++ ks2 = ks) ∧ Aside0 (PartsAt (x, y, lv) l l.length w.heap.size (w1.heap.size + 1) #[.slice B0 (partP (x, y, lv) l 0).length d0, .slice B1 (partP (x, y, lv) l 1).length d1, .slice B2 (partP (x, y, lv) l 2).length d2, .slice B3 (partP (x, y, lv) l 3).length d3] V) ∧ Aside0 (Below w.heap.size w V) ∧ Aside0 (V.heap[w.heap.size]? = some (.cells #[.int .u32 0, .int .u32 0, .int .i64 0, .slice none 0 0, .slice none 0 0] 44 (0, 0))) ∧ Aside0 (V.heap[w1.heap.size]? = some (.cells #[.int .u32 x, .int .u32 y, .int .i64 lv, .slice none 0 0, vk] 44 (0, 0))) ∧ Aside0 (Kd.R k44 44 V w.heap.size (fun k_ => k_ ≠ w.heap.size ∧ k_ ≠ w1.heap.size) vk ks1)) (fun i _ => 4 - (intOf i).toNat)
   case atStart => exact ⟨0, [], ks, .slice none 0 0, rfl, by omega, ⟨by simp⟩, HK, ⟨rfl⟩, hP, hB, h2, h3, ⟨Kd.R_nil _ _ _ _ _⟩⟩
   case round =>
    clear hP hB h2 h3
    obtain ⟨j, ks1, ks2, vk, rfl, hj4, hkl, hkd, hke, hP, hB, h2, h3, hO⟩ := hrel
    by_cases hjl : j < 4
    ·obtain ⟨Bi, di, hBi, hix⟩ : ∃ Bi di, (#[.slice B0 (partP (x, y, lv) l 0).length d0, .slice B1 (partP (x, y, lv) l 1).length d1, .slice B2 (partP (x, y, lv) l 2).length d2, .slice B3 (partP (x, y, lv) l 3).length d3] : Array Value)[j]? = some (.slice Bi (partP (x, y, lv) l j).length di) ∧ ∀ V, (Instr.index 73 (.agg #[.slice B0 (partP (x, y, lv) l 0).length d0, .slice B1 (partP (x, y, lv) l 1).length d1, .slice B2 (partP (x, y, lv) l 2).length d2, .slice B3 (partP (x, y, lv) l 3).length d3]) (.int .i64 (j : Int))).run Tryz.prog V = .ok (.slice Bi (partP (x, y, lv) l j).length di) V := by
      have hsz : Tryz.prog.underlying 22 = some (.slice 37) := Tryz.underlying22
      match j, hjl with
      | 0, _ => exact ⟨_, _, rfl, fun V => by simp [Instr.index, run_underlying hu87, asIntOf, go_sem]⟩
      | 1, _ => exact ⟨_, _, rfl, fun V => by simp [Instr.index, run_underlying hu87, asIntOf, go_sem]⟩
      | 2, _ => exact ⟨_, _, rfl, fun V => by simp [Instr.index, run_underlying hu87, asIntOf, go_sem]⟩
      | 3, _ => exact ⟨_, _, rfl, fun V => by simp [Instr.index, run_underlying hu87, asIntOf, go_sem]⟩
     have hdrop : [partP (x, y, lv) l 0, partP (x, y, lv) l 1, partP (x, y, lv) l 2, partP (x, y, lv) l 3].drop j = partP (x, y, lv) l j :: [partP (x, y, lv) l 0, partP (x, y, lv) l 1, partP (x, y, lv) l 2, partP (x, y, lv) l 3].drop (j + 1) := by
      match j, hjl with
      | 0, _ => rfl
      | 1, _ => rfl
      | 2, _ => rfl
      | 3, _ => rfl
     by_cases hpe : partP (x, y, lv) l j = []
     ·have hpl : (partP (x, y, lv) l j).length = 0 := by rw [hpe]; rfl
      have HPL := Aside0.mk hpl
      go_wp2_with fail
      go_roundw
      case rel => exact ⟨j + 1, ks1, ks2, vk, rfl, by omega, ⟨by have := hkl.out; omega⟩, ⟨by have := hkd.out; rw [hdrop, kidsP, if_pos hpe] at this; exact this⟩, hke, hP, hB, h2, h3, hO⟩
      case measure => simp [intOf]; omega
     ·have hpl : decide ((partP (x, y, lv) l j).length > 0) = true := decide_eq_true (List.length_pos_iff.2 hpe)
      have HPJ := Aside0.mk (hP.out.p j _ hBi)
      rw [List.take_length] at HPJ
      have hkd1 := hkd.out
      rw [hdrop, kidsP, if_neg hpe] at hkd1
      obtain ⟨qk, hqk, hkd2⟩ := Option.bind_eq_some_iff.1 hkd1
      obtain ⟨ks3, hks3, rfl⟩ := Option.map_eq_some_iff.1 hkd2
      have HQK := Aside0.mk hqk
      have HK3 := Aside0.mk hks3
      clear hkd1 hkd2 hqk hks3
      go_wp2_with fail
      have n0_ := Aside0.mk hP.out.drew
      have n1_ := Aside0.mk (below_drew1 hB.out)
      have n2_ := Aside0.mk (blk_drew h2.out)
      have n3_ := Aside0.mk (blk_drew h3.out)
      have n4_ := Aside0.mk (Kd.R_drew HPJ.out)
      have n5_ := Aside0.mk (Kd.R_drew hO.out)
      clear hP hB h2 h3 HPJ hO
      have hP := n0_
      have hB := n1_
      have h2 := n2_
      have h3 := n3_
      have HPJ := n4_
      have hO := n5_
      clear n0_ n1_ n2_ n3_ n4_ n5_
      refine start_ (n := 8) (S := fun w' => w'.cell? ⟨w1.heap.size, 0, none⟩ = some (.int .u32 x) ∧ w'.cell? ⟨w1.heap.size, 1, none⟩ = some (.int .u32 y) ∧ w'.cell? ⟨w1.heap.size, 2, none⟩ = some (.int .i64 lv) ∧ w'.cell? ⟨w1.heap.size, 3, none⟩ = some (.slice none 0 0) ∧ w'.cell? ⟨w1.heap.size, 4, none⟩ = some vk) (ds := [7]) #[false, false, false, false, false, false, false, false] (by kernel_rfl) rfl rfl ⟨(blk_cell (h3.out) 0).trans rfl, (blk_cell (h3.out) 1).trans rfl, (blk_cell (h3.out) 2).trans rfl, (blk_cell (h3.out) 3).trans rfl, (blk_cell (h3.out) 4).trans rfl⟩ (fun hHeld => ?_); refine with_tabW tree_tab18 tree_bits18 (fun HT_ HW_ => ?_)
      generalize wr.drew = w49 at hP hB h2 h3 HPJ hO hHeld ⊢
      refine pA 0 HT_ ?_
      refine pA 2 HT_ ?_
      refine tA 1 HT_ HW_ ?_
      refine oA 3 HT_ (fun K hK => ?_)
      refine goes_ Tryz.func24 (by kernel_rfl) rfl #[.slice Bi (partP (x, y, lv) l j).length di] (by rfl) rfl rfl (by (try simp only [List.map_toArray, List.map_cons, List.map_nil]); first | done | rfl | (simp only [List.length_drop, List.length_take]; rfl)) ?_
      refine (HIH.out _ _ _ qk _ (Kd.R_reads' HPJ.out).2.2 (Kd.R_reads' HPJ.out).2.1 HQK.out).mono ?_
      rintro e w50 ⟨v212, v215, rfl, ho0, ho1, hb⟩
      refine ⟨_, rfl, ?_⟩
      have n1_ := Aside0.mk (Kd.R_mono (Kd.R_told (Kd.R_told (Kd.R_old hO.out hb) (Kd.R_base ho0)) (Kd.R_base ho1)) (fun _ h_ => h_.1))
      have n2_ := Aside0.mk (Kd.R_lower ho0 (below_size hB.out))
      have n3_ := Aside0.mk (Kd.R_lower (Kd.R_newB (Kd.R_newB (Kd.R_new' ho1 (Kd.R_lt hO.out)) h2.out) h3.out) (below_size hB.out))
      have n4_ := Aside0.mk (blk_below h2.out hb)
      have n5_ := Aside0.mk (blk_below h3.out hb)
      have n6_ := Aside0.mk (hP.out.below hb)
      have n7_ := Aside0.mk (below_step hB.out hb)
      clear hO h2 h3 hB hP
      have hO := n1_
      have HO213 := n2_
      have HO216 := n3_
      have h2 := n4_
      have h3 := n5_
      have hP := n6_
      have hB := n7_
      clear n1_ n2_ n3_ n4_ n5_ n6_ n7_ hb ho0 ho1
      obtain ⟨Ao52, co52, eo52⟩ := Kd.R_slice HO213.out
      subst eo52
      obtain ⟨Ao53, co53, eo53⟩ := Kd.R_slice HO216.out
      subst eo53
      refine hK.out _ _ ⟨(blk_cell (h3.out) 0).trans rfl, (blk_cell (h3.out) 1).trans rfl, (blk_cell (h3.out) 2).trans rfl, (blk_cell (h3.out) 3).trans rfl, (blk_cell (h3.out) 4).trans rfl⟩ (fun hHeld => ?_)
      clear hK K
      refine norm_ (a' := ?_) ?_ ?_
      rotate_left
      ·show Act.put _ (some 66) _ = _
       simp only [Act.put, List.setIfInBounds_toArray, List.set_cons_zero, List.set_cons_succ, i64_w, i32_w]
       rfl
      refine oA 4 HT_ (fun K hK => ?_)
      refine value_ (w1 := ?_) (v := ?_) (by rfl) rfl ?_ ?_
      rotate_left 2
      ·go_simp
       constructor
       ·rfl
       ·rfl
      refine hK.out _ _ ⟨(blk_cell (blk_alloc h3.out _) 0).trans rfl, (blk_cell (blk_alloc h3.out _) 1).trans rfl, (blk_cell (blk_alloc h3.out _) 2).trans rfl, (blk_cell (blk_alloc h3.out _) 3).trans rfl, (blk_cell (blk_alloc h3.out _) 4).trans rfl⟩ (fun hHeld => ?_)
      clear hK K
      refine norm_ (a' := ?_) ?_ ?_
      rotate_left
      ·show Act.put _ (some 67) _ = _
       simp only [Act.put, List.setIfInBounds_toArray, List.set_cons_zero, List.set_cons_succ, i64_w, i32_w]
       rfl
      refine oA 5 HT_ (fun K hK => ?_)
      refine Kd.R_append_step k44 (w0 := w) w.heap.size (by rfl) (.tmp 64) (.tmp 67) 42 44 (.agg #[(.int .u32 0), (.int .u32 0), (.int .i64 0), (.slice none 0 0), (.slice none 0 0)]) 64 rfl Tryz.underlying42 infoN9 rfl (by decide) (by omega) vk ks1 (mkNode qk) [.int .u32 qk.1, .int .u32 qk.2.1, .int .i64 qk.2.2.1, .slice Ao52 qk.2.2.2.1.length co52, .slice Ao53 qk.2.2.2.2.length co53] (fun k_ => k_ ≠ w.heap.size ∧ k_ ≠ w1.heap.size) (fun k_ => (k_ ≠ w.heap.size ∧ k_ ≠ w1.heap.size) ∧ some k_ ≠ (vk : Value).ownBlock) rfl rfl ?aP (fun _ hk => hk) ?aF ?aO ?aB ?aS ?aL ?_
      (case aP => exact k44_mkM _ _ _ (mkNode qk) (Kd.R_mono (Kd.R_types (Kd.R_types (Kd.R_apart' (HO213.out) (Kd.R_typed hO.out) (by decide)) h2.out (by decide)) h3.out (by decide)) (fun k_ hk => ⟨⟨hk.1.2, hk.2⟩, hk.1.1.2⟩)) (Kd.R_mono (HO216.out) (fun k_ hk => ⟨⟨hk.1.2, hk.2⟩, hk.1.1.2⟩)))
      (case aB => exact hB.out)
      (case aF => exact (fun k_ hk => ⟨Kd.freshB h2.out k_ hk, Kd.freshB h3.out k_ hk⟩))
      (case aO => exact (Kd.R_mono hO.out (fun _ hk => hk.1.1)))
      (case aS => exact below_size hB.out)
      (case aL => have := hkl.out; omega)
      intro v218 w51 ho hb hg hat
      have n0_ := Aside0.mk (hP.out.grown hg (fun k hk => Kd.R_typed hO.out k hk))
      have n1_ := Aside0.mk (blk_grown h2.out hg (Kd.R_away hO.out (fun _ hk => hk.1.1.1)))
      have n2_ := Aside0.mk (blk_grown h3.out hg (Kd.R_away hO.out (fun _ hk => hk.1.1.2)))
      have n4_ := Aside0.mk (hb)
      have n5_ := Aside0.mk (ho)
      clear hP h2 h3 hB hO HO213 HO216
      have hP := n0_
      have h2 := n1_
      have h3 := n2_
      have hB := n4_
      have HO219 := n5_
      clear n0_ n1_ n2_ n4_ n5_
      clear ho hb hg hat
      obtain ⟨Ao54, co54, eo54⟩ := Kd.R_slice HO219.out
      subst eo54
      refine hK.out _ _ ⟨(blk_cell (h3.out) 0).trans rfl, (blk_cell (h3.out) 1).trans rfl, (blk_cell (h3.out) 2).trans rfl, (blk_cell (h3.out) 3).trans rfl, (blk_cell (h3.out) 4).trans rfl⟩ (fun hHeld => ?_)
      clear hK K
      refine norm_ (a' := ?_) ?_ ?_
      rotate_left
      ·show Act.put _ (some 68) _ = _
       simp only [Act.put, List.setIfInBounds_toArray, List.set_cons_zero, List.set_cons_succ, i64_w, i32_w]
       rfl
      refine pA 6 HT_ ?_
      refine last_ (i := 7) (N := none) #[true, true, true, true, true, true, true, true] rfl rfl (one_of HT_.out (by kernel_rfl)) (by decide) (fun K hK => ?_)
      have hs55 : w51.cell? ⟨w1.heap.size, 4, none⟩ = some vk := (blk_cell h3.out 4).trans rfl
      have hfs55 := blk_frozen h3.out 4
      refine skip_ (w1 := ?_) (by rfl) rfl ?_ ?_
      rotate_left
      ·go_simp
       rfl
      refine hK.out _ _ ?_
      clear hK K
      refine done_ (done_of HT_.out (by kernel_rfl)) ?_
      go_wp2_with fail
      go_roundw
      case rel => exact ⟨j + 1, ks1 ++ [mkNode qk], ks3, _, rfl, by omega, ⟨by have := hkl.out; simp; omega⟩, HK3, ⟨by rw [← hke.out]; simp⟩, ⟨hP.out.set h3.out _ _⟩, ⟨hB.out.setCell (by have := HB1.out.size; show w.heap.size ≤ w1.heap.size; omega) _⟩, ⟨blk_far h2.out (by show w.heap.size ≠ w1.heap.size; omega) _⟩, ⟨by have := blk_set h3.out 4 (.slice Ao54 (ks1.length + 1) co54); simpa using this⟩, ⟨Kd.R_mono (Kd.R_far (p := ⟨w1.heap.size, 4, none⟩) HO219.out (fun _ hk => hk.2) _) (fun _ hk => hk)⟩⟩
      case measure => simp [intOf]; omega
    ·obtain rfl : j = 4 := by omega
     have hks2 : ks2 = [] := by have := hkd.out; simp [kidsP] at this; exact this
     subst hks2
     have hke1 := hke.out
     rw [List.append_nil] at hke1
     subst hke1
     obtain ⟨Ak, ck, ek⟩ := Kd.R_slice hO.out
     subst ek
     have k0 := boxc_cell h3.out 0
     have k1 := boxc_cell h3.out 1
     have k2 := boxc_cell h3.out 2
     have k3 := boxc_cell h3.out 3
     have k4 := boxc_cell h3.out 4
     have m0 := boxc_cell h2.out 0
     have m1 := boxc_cell h2.out 1
     have m2 := boxc_cell h2.out 2
     have m3 := boxc_cell h2.out 3
     have m4 := boxc_cell h2.out 4
     have z2 := fun i => boxc_frozen h2.out i
     go_wp2_with fail
     have b5 := blk_set (blk_set (blk_set (blk_set (blk_set h2.out 0 (.int .u32 x)) 1 (.int .u32 y)) 2 (.int .i64 lv)) 3 (.slice none 0 0)) 4 (.slice Ak ks1.length ck)
     refine bodyPost_ret (results_c1 rfl _ _ w.heap.size 44 #[.int .u32 x, .int .u32 y, .int .i64 lv, .slice none 0 0, .slice Ak ks1.length ck] (0, 0) _ rfl (by simpa using b5) hu rfl (by kernel_rfl)) rfl ?_
     have hfar : ∀ {W : World} {ok : Nat → Prop} {v : Value} {xs : List S44} (o : Nat) (u : Value), Kd.R k44 44 W w.heap.size (fun k_ => k_ ≠ w.heap.size ∧ k_ ≠ w1.heap.size) v xs → Kd.R k44 44 (W.setCell ⟨w.heap.size, o, none⟩ u) w.heap.size (fun k_ => k_ ≠ w.heap.size ∧ k_ ≠ w1.heap.size) v xs := fun o u h => Kd.R_far (p := ⟨w.heap.size, o, none⟩) h (fun _ hk => hk.1) u
     have hbs : ∀ {W : World} (o : Nat) (u : Value), Below w.heap.size w W → Below w.heap.size w (W.setCell ⟨w.heap.size, o, none⟩ u) := fun o u h => h.setCell (Nat.le_refl _) u
     refine ⟨_, _, rfl, Kd.R_nil _ _ _ _ _, Kd.R_mono (hfar (ok := fun _ => True) _ _ (hfar (ok := fun _ => True) _ _ (hfar (ok := fun _ => True) _ _ (hfar (ok := fun _ => True) _ _ (hfar (ok := fun _ => True) _ _ hO.out))))) (fun k_ _ => by simp [Value.ownBlock]), ?_⟩
     exact hbs _ _ (hbs _ _ (hbs _ _ (hbs _ _ (hbs _ _ hB.out))))
theorem tree_calls (k : Nat) : ∀ (A0 : Option Addr) (c0 : Nat) (l : List S37) (q : Nod) (w : World), Kd.C k37 w A0 l.length l → l.length ≤ c0 → quad_tree.f k l = some q → Calls Tryz.prog 24 #[.slice A0 l.length c0] w (TreePost w q) := by
 induction k with
 | zero => intro A0 c0 l q w _ _ h; cases h
 | succ k ih =>
  intro A0 c0 l q w hr hc h
  rw [quad_tree.f] at h
  by_cases h0 : l = []
  ·rw [if_pos h0] at h
   cases h
   subst h0
   exact tree_nil A0 c0 w
  ·rw [if_neg h0] at h
   obtain ⟨c, ha, h⟩ := Option.bind_eq_some_iff.1 h
   by_cases h1 : l.length ≤ 1000
   ·rw [if_pos h1] at h
    by_cases h2 : l.length ≤ 4 ∨ c.2.2 = 0
    ·rw [if_pos h2] at h
     cases h
     exact tree_leaf k A0 c0 l c w hr hc (List.length_pos_iff.2 h0) h1 ha h2
    ·rw [if_neg h2] at h
     by_cases h3 : ∀ r ∈ l, 0 ≤ whereP c r ∧ whereP c r < 4
     ·rw [if_pos h3] at h
      obtain ⟨ks, hks, rfl⟩ := Option.map_eq_some_iff.1 h
      refine tree_go k ih A0 c0 l c w hr hc (fun e => h2 (.inl e)) (fun e => h2 (.inr e)) h1 ha h3 (fun r hm => ?_) ks hks
      have := (h3 r hm).1
      unfold whereP at this
      cases hw : cell_Where.f c.1 c.2.1 c.2.2 r.f1 r.f2 with
      | none => rw [hw] at this; simp at this
      | some q => exact ⟨q, rfl⟩
     ·rw [if_neg h3] at h; cases h
   ·rw [if_neg h1] at h; cases h
theorem quad_tree.calls (k : Nat) (A0 : Option Addr) (c0 : Nat) (l0 : List S37) (r1 r2 r3 : Int) (r4 : List S37) (r5 : List S44) (w : World) (hr0 : Kd.C k37 w A0 l0.length l0) (hc0 : l0.length ≤ c0) (h : quad_tree.f k l0 = some (r1, r2, r3, r4, r5)) :
  Calls Tryz.prog 24 #[.slice A0 l0.length c0] w fun e w' => ∃ v3_ v4_ : Value, e = .returned (.agg #[.int .u32 r1, .int .u32 r2, .int .i64 r3, v3_, v4_]) ∧ Kd.R k37 37 w' w.heap.size (fun _ => True) v3_ r4 ∧ Kd.R k44 44 w' w.heap.size (fun k_ => some k_ ≠ (v3_ : Value).ownBlock) v4_ r5 ∧ Below w.heap.size w w' :=
 tree_calls k A0 c0 l0 (r1, r2, r3, r4, r5) w hr0 hc0 h
end Go.Proofs.YtoimgijhekahhaaGreat.P

/- Layer 9, quad: things (nodes and rows, how far they are), their order (quad.order): walked. -/
import Derived.Test.YtoimgijhekahhaaGreatPx8
import Derived.Test.YtoimgijhekahhaaGreatPx801
import Derived.Test.YtoimgijhekahhaaGreatPx905
namespace Go.Proofs.YtoimgijhekahhaaGreat.P
open Go.RowKit Go.Sort Go.Lib Go.Shelf Go.Proofs.YtoimgijhekahhaaGreatOwn Go.Proofs.YtoimgijhekahhaaGreatSort Go.Proofs.YtoimgijhekahhaaGreatW.PrintWords Go.Proofs.YtoimgijhekahhaaGreatW.PrintLast Go.Proofs.YtoimgijhekahhaaGreatW.PrintMore
set_option linter.unusedVariables false
set_option linter.unusedSimpArgs false
structure Th9 where
 far : Int
 c0 : Int
 c1 : Int
 c2 : Int
 A3 : Option Addr
 n3 : Nat
 k3 : Nat
 A4 : Option Addr
 n4 : Nat
 k4 : Nat
 row : S37
 leaf : Bool
 node : S44
def encT (t : Th9) : List Value := [.int .u64 t.far, .int .u32 t.c0, .int .u32 t.c1, .int .i64 t.c2, .slice t.A3 t.n3 t.k3, .slice t.A4 t.n4 t.k4, .int .u64 t.row.f0, .int .u32 t.row.f1, .int .u32 t.row.f2, .string t.row.f3, .bool t.leaf]
def ordT (a b : Th9) : Int := if a.far = b.far then (if a.leaf = b.leaf then cmpI a.row.f0 b.row.f0 else (if b.leaf = true then -1 else 1)) else cmpI a.far b.far
set_option maxRecDepth 100000 in
set_option maxHeartbeats 4000000 in
theorem order_calls (x y : Th9) (W : World) : Calls Tryz.prog 57 #[.agg (encT x).toArray, .agg (encT y).toArray] W fun e w' => e = .returned (.int .i64 (ordT x y)) ∧ ∃ q os', w' = grow (W.drewN q) os' := by
 obtain ⟨fx, x0, x1, x2, xA, xn, xk, xB, xm, xc, rx, lx, nx⟩ := x
 obtain ⟨fy, y0, y1, y2, yA, yn, yk, yB, ym, yc, ry, ly, ny⟩ := y
 unfold encT ordT
 dsimp only
 by_cases hf : fx = fy
 ·have hfb : (fx != fy) = false := bne_eq_false_iff_eq.2 hf
  rw [if_pos hf]
  cases lx <;> cases ly
  ·rw [if_pos rfl]
   clear hf
   go_enter Tryz.func57, Tryz.ntmps57
   go_wp2_with (go_at_call 67; refine (cmp_Compare_uint64.calls rx.f0 ry.f0 (cmpI rx.f0 ry.f0) _ (cmp_fI _ _)).mono ?_; rintro e w1 ⟨rfl, hb⟩)
   obtain ⟨q, rfl⟩ := hb.out
   go_ret
   exact ⟨rfl, q, _, by rw [alloc_eq_grow, alloc_eq_grow, grow_grow, drewN_grow]⟩
  ·rw [if_neg (by simp), if_pos rfl]
   clear hf
   go_enter Tryz.func57, Tryz.ntmps57
   go_wp2
   go_ret
   exact ⟨rfl, 0, _, by rw [alloc_eq_grow, alloc_eq_grow, grow_grow]; rfl⟩
  ·rw [if_neg (by simp), if_neg (by simp)]
   clear hf
   go_enter Tryz.func57, Tryz.ntmps57
   go_wp2
   go_ret
   exact ⟨rfl, 0, _, by rw [alloc_eq_grow, alloc_eq_grow, grow_grow]; rfl⟩
  ·rw [if_pos rfl]
   clear hf
   go_enter Tryz.func57, Tryz.ntmps57
   go_wp2_with (go_at_call 67; refine (cmp_Compare_uint64.calls rx.f0 ry.f0 (cmpI rx.f0 ry.f0) _ (cmp_fI _ _)).mono ?_; rintro e w1 ⟨rfl, hb⟩)
   obtain ⟨q, rfl⟩ := hb.out
   go_ret
   exact ⟨rfl, q, _, by rw [alloc_eq_grow, alloc_eq_grow, grow_grow, drewN_grow]⟩
 ·have hfb : (fx != fy) = true := bne_iff_ne.2 hf
  rw [if_neg hf]
  clear hf
  go_enter Tryz.func57, Tryz.ntmps57
  go_wp2_with (go_at_call 67; refine (cmp_Compare_uint64.calls fx fy (cmpI fx fy) _ (cmp_fI _ _)).mono ?_; rintro e w1 ⟨rfl, hb⟩)
  obtain ⟨q, rfl⟩ := hb.out
  go_ret
  exact ⟨rfl, q, _, by rw [alloc_eq_grow, alloc_eq_grow, grow_grow, drewN_grow]⟩
theorem ordT_neg {a b : Th9} : ordT a b < 0 ↔ a.far < b.far ∨ (a.far = b.far ∧ ((a.leaf = false ∧ b.leaf = true) ∨ (a.leaf = b.leaf ∧ a.row.f0 < b.row.f0))) := by
 unfold ordT
 by_cases hf : a.far = b.far
 ·rw [if_pos hf]
  by_cases hl : a.leaf = b.leaf
  ·rw [if_pos hl, cmpI_neg]
   constructor
   ·intro h; exact .inr ⟨hf, .inr ⟨hl, h⟩⟩
   ·rintro (h | ⟨_, h | ⟨_, h⟩⟩)
    ·omega
    ·rw [h.1, h.2] at hl; cases hl
    ·exact h
  ·rw [if_neg hl]
   cases ha : a.leaf <;> cases hb : b.leaf
   ·rw [ha, hb] at hl; exact absurd rfl hl
   ·rw [if_pos rfl]
    exact ⟨fun _ => .inr ⟨hf, .inl ⟨rfl, rfl⟩⟩, fun _ => by decide⟩
   ·rw [if_neg (by simp)]
    constructor
    ·intro h; exact absurd h (by decide)
    ·rintro (h | ⟨_, h | ⟨h, _⟩⟩)
     ·omega
     ·cases h.1
     ·cases h
   ·rw [ha, hb] at hl; exact absurd rfl hl
 ·rw [if_neg hf, cmpI_neg]
  constructor
  ·intro h; exact .inl h
  ·rintro (h | h)
   ·exact h
   ·exact absurd h.1 hf
theorem swoT : SWO (ltOf ordT) where
 irrefl x := by unfold ltOf; rw [decide_eq_false_iff_not, ordT_neg]; rintro (h | ⟨_, h | ⟨_, h⟩⟩) <;> first | omega | (rw [h.1] at h; cases h.2)
 trans x y z h1 h2 := by
  unfold ltOf at *
  rw [decide_eq_true_eq, ordT_neg] at *
  rcases h1 with h1 | ⟨e1, h1⟩
  ·rcases h2 with h2 | ⟨e2, h2⟩ <;> exact .inl (by omega)
  ·rcases h2 with h2 | ⟨e2, h2⟩
   ·exact .inl (by omega)
   ·refine .inr ⟨by omega, ?_⟩
    rcases h1 with ⟨a1, a2⟩ | ⟨a1, a2⟩ <;> rcases h2 with ⟨b1, b2⟩ | ⟨b1, b2⟩
    ·rw [a2] at b1; cases b1
    ·exact .inl ⟨a1, by rw [← b1]; exact a2⟩
    ·exact .inl ⟨by rw [a1]; exact b1, b2⟩
    ·exact .inr ⟨by rw [a1]; exact b1, by omega⟩
 ntrans x y z h1 h2 := by
  unfold ltOf at *
  rw [decide_eq_false_iff_not, ordT_neg] at *
  rintro (h | ⟨e, h⟩)
  ·have a1 : ¬ x.far < y.far := fun q => h1 (.inl q)
   have a2 : ¬ y.far < z.far := fun q => h2 (.inl q)
   omega
  ·have a1 : ¬ x.far < y.far := fun q => h1 (.inl q)
   have a2 : ¬ y.far < z.far := fun q => h2 (.inl q)
   have e1 : x.far = y.far := by omega
   have e2 : y.far = z.far := by omega
   have b1 : ¬ ((x.leaf = false ∧ y.leaf = true) ∨ (x.leaf = y.leaf ∧ x.row.f0 < y.row.f0)) := fun q => h1 (.inr ⟨e1, q⟩)
   have b2 : ¬ ((y.leaf = false ∧ z.leaf = true) ∨ (y.leaf = z.leaf ∧ y.row.f0 < z.row.f0)) := fun q => h2 (.inr ⟨e2, q⟩)
   cases hx : x.leaf <;> cases hy : y.leaf <;> cases hz : z.leaf <;> simp_all <;> omega
instance : Inhabited Th9 := ⟨⟨0, 0, 0, 0, none, 0, 0, none, 0, 0, z37, false, z44⟩⟩
set_option maxRecDepth 100000 in
set_option maxHeartbeats 4000000 in
theorem sortThings_calls (w : World) (base : Nat) (v : Value) (l : List Th9) (h : QRow w base 89 11 v l.length (l.flatMap encT)) (hlen : l.length < 4611686018427387904) :
  Calls Tryz.prog 56 #[v, .func (.func 57) #[] #[]] w fun e w' => e = .returned (.tuple #[]) ∧ ∃ l' : List Th9, l'.Perm l ∧ l'.Pairwise (fun a b => ¬ ordT b a < 0) ∧ QRow w' base 89 11 v l.length (l'.flatMap encT) ∧ w.grownBy w' v.ownBlock := by
 exact sort_row sortThing 11 (by decide) Tryz.isAgg89 Tryz.sizeOf89 encT (fun _ => rfl) (fun x v hv => by simp [encT] at hv; rcases hv with rfl | rfl | rfl | rfl | rfl | rfl | rfl | rfl | rfl | rfl | rfl <;> rfl) ordT swoT 57 #[]
  (enters_of Tryz.func57 (by kernel_rfl) rfl) base 89 v l w h hlen (fun blk off m os dk _ x y => order_calls x y _)
theorem info74_ : (Tryz.prog.info? 89).map (fun i => (i.zero, i.size, i.bytes)) = some (some (.agg #[.int .u64 0, .int .u32 0, .int .u32 0, .int .i64 0, .slice none 0 0, .slice none 0 0, .int .u64 0, .int .u32 0, .int .u32 0, .string ⟨#[]⟩, .bool false]), 11, 112) := by kernel_rfl
theorem encT_one (t : Th9) : ∀ v ∈ encT t, v.oneCell' = true := fun v hv => by simp [encT] at hv; rcases hv with rfl | rfl | rfl | rfl | rfl | rfl | rfl | rfl | rfl | rfl | rfl <;> rfl
theorem t9_run {w0 W : World} (base : Nat) (ty : TypeId) (v : Value) (q : List Th9) (t : Th9) (cs : List Value) (hcs : encT t = cs) (hQ : QRow W base 89 11 v q.length (q.flatMap encT)) (HB : Below base w0 W) (hbase : base ≤ W.heap.size) (hl : q.length ≤ 1000000) :
  ∃ v1 w1, (Builtin.append_ #[90, 90] ty #[v, .slice (some ⟨W.heap.size, 0, none⟩) 1 1]).run Tryz.prog (W.alloc (.cells cs.toArray 89)) = .ok v1 w1 ∧ QRow w1 base 89 11 v1 (q ++ [t]).length ((q ++ [t]).flatMap encT) ∧ Below base w0 w1 ∧ W.grownBy w1 v.ownBlock ∧ (v1.ownBlock = v.ownBlock ∨ ∃ b, v1.ownBlock = some b ∧ W.heap.size ≤ b) := by
 subst hcs
 obtain ⟨i0, hi, hi0, hi1, hi2⟩ := info_parts info74_
 have hq : QRow (W.alloc (.cells (encT t).toArray 89)) base 89 11 v q.length (q.flatMap encT) := q_move hQ (fun k hk => Below.heap_alloc W _ k (q_lt hQ k hk))
 obtain ⟨v1, w1, hrun, hq1, hg1, hat⟩ := q_append (P := Tryz.prog) (W.alloc (.cells (encT t).toArray 89)) base 90 ty 89 i0 _ 11 112 Tryz.underlying90 hi hi0 hi1 hi2 rfl (by decide) v q.length (q.flatMap encT) hq ⟨W.heap.size, 0, none⟩ 1 1 (encT t) rfl
  (by simpa using World.news_of_block (cs := (encT t).toArray) (t := 89) (fr := (0, 0)) (heap_alloc_new W (.cells (encT t).toArray 89))) (encT_one t) (by omega) (by simp only [maxLen]; omega) (by omega) (by simp; omega)
 have hg : W.grownBy w1 v.ownBlock := World.grownBy.trans (World.grownBy_alloc W _ _) hg1
 exact ⟨v1, w1, hrun, by rw [List.length_append, List.length_singleton, List.flatMap_append, List.flatMap_singleton]; exact hq1, HB.grown hg hbase (fun k hk => (q_typed hQ k hk).1), hg, hat.imp id (fun ⟨b, h1, h2⟩ => ⟨b, h1, by rw [World.size_alloc] at h2; omega⟩)⟩
section
variable {ops : Array Oper} {rest : List Oper} {o : Oper} {a : Act} {Q' : Exit → Act → World → Prop} {Kc : Act → World → Prop}
theorem t9_append {w0 W : World} (base : Nat) (hgd : o.guard = none) (s x : Operand) (ho : o.op = .call { callee := .builtin .append, args := #[s, x], argTypes := #[90, 90] })
  (v : Value) (q : List Th9) (t : Th9) (cs : List Value) (hcs : encT t = cs) (hs : a.eval s = v) (hx : a.eval x = .slice (some ⟨W.heap.size, 0, none⟩) 1 1) (hQ : QRow W base 89 11 v q.length (q.flatMap encT)) (HB : Below base w0 W) (hbase : base ≤ W.heap.size) (hl : q.length ≤ 1000000)
  (h : ∀ v1 w1, QRow w1 base 89 11 v1 (q ++ [t]).length ((q ++ [t]).flatMap encT) → Below base w0 w1 → W.grownBy w1 v.ownBlock → (v1.ownBlock = v.ownBlock ∨ ∃ b, v1.ownBlock = some b ∧ W.heap.size ≤ b) → wpList Tryz.prog ops Q' rest (a.put o.dst v1) w1) :
  wpList Tryz.prog ops Q' (o :: rest) a (W.alloc (.cells cs.toArray 89)) := by
 obtain ⟨v1, w1, hr, h1, h2, h3, h4⟩ := t9_run base o.type v q t cs hcs hQ HB hbase hl
 refine wpList_plain hgd fun K hK => ?_
 unfold Oper.wp execOp
 simp only [ho, resolve, invoke, builtin, Sem.run_bind, Sem.run_pure, Result.andThen_ok, List.map_toArray, List.map_cons, List.map_nil, hs, hx, hr]
 exact hK _ _ (h v1 w1 h1 h2 h3 h4)
theorem t9_step {w0 W : World} (base : Nat) (hw : Region.wanted o (yielded ops a.tmps) = true) (s x : Operand) (ho : o.op = .call { callee := .builtin .append, args := #[s, x], argTypes := #[90, 90] })
  (v : Value) (q : List Th9) (t : Th9) (cs : List Value) (hcs : encT t = cs) (hs : a.eval s = v) (hx : a.eval x = .slice (some ⟨W.heap.size, 0, none⟩) 1 1) (hQ : QRow W base 89 11 v q.length (q.flatMap encT)) (HB : Below base w0 W) (hbase : base ≤ W.heap.size) (hl : q.length ≤ 1000000)
  (h : ∀ v1 w1, QRow w1 base 89 11 v1 (q ++ [t]).length ((q ++ [t]).flatMap encT) → Below base w0 w1 → W.grownBy w1 v.ownBlock → (v1.ownBlock = v.ownBlock ∨ ∃ b, v1.ownBlock = some b ∧ W.heap.size ≤ b) → Kc (a.put o.dst v1) w1) :
  if Region.wanted o (yielded ops a.tmps) = true then Oper.wp Tryz.prog o a (W.alloc (.cells cs.toArray 89)) Kc Q' else Kc (a.put o.dst undef) (W.alloc (.cells cs.toArray 89)) := by
 obtain ⟨v1, w1, hr, h1, h2, h3, h4⟩ := t9_run base o.type v q t cs hcs hQ HB hbase hl
 rw [if_pos hw]
 unfold Oper.wp execOp
 simp only [ho, resolve, invoke, builtin, Sem.run_bind, Sem.run_pure, Result.andThen_ok, List.map_toArray, List.map_cons, List.map_nil, hs, hx, hr]
 exact h v1 w1 h1 h2 h3 h4
end
end Go.Proofs.YtoimgijhekahhaaGreat.P
namespace Go.Proofs.YtoimgijhekahhaaGreat.P
open Go.RowKit Go.Proofs.YtoimgijhekahhaaGreatOwn Go.Proofs.YtoimgijhekahhaaGreatW.PrintWords Go.Proofs.YtoimgijhekahhaaGreatW.PrintLast Go.Proofs.YtoimgijhekahhaaGreatW.PrintMore
set_option linter.unusedVariables false
set_option linter.unusedSimpArgs false
def dstR (x y : Int) (r : S37) : Int := match quad_far.f 1 r.f0 r.f1 r.f2 r.f3 x y with | some d => d | none => 0
def dstC (x y : Int) (c : S41) : Int := match cell_Far.f 1 c.f0 c.f1 c.f2 x y with | some d => d.1 | none => 0
def keyLt (x y : Int) (a b : S37) : Prop := dstR x y a < dstR x y b ∨ (dstR x y a = dstR x y b ∧ a.f0 < b.f0)
mutual
def goodN (x y : Int) : S44 → Prop
 | ⟨c, rs, ks⟩ => (∀ r ∈ rs ++ rowsL (fun _ => false) ks, dstC x y c ≤ dstR x y r) ∧ goodL x y ks
def goodL (x y : Int) : List S44 → Prop
 | [] => True
 | n :: l => goodN x y n ∧ goodL x y l
end
theorem goodL_mem {x y : Int} : ∀ {l : List S44} {n : S44}, n ∈ l → goodL x y l → goodN x y n
 | a :: l, n, h, ha => by
  rw [goodL] at ha
  rcases List.mem_cons.1 h with rfl | h
  ·exact ha.1
  ·exact goodL_mem h ha.2
theorem goodN_eq (x y : Int) (n : S44) : goodN x y n = ((∀ r ∈ n.f1 ++ rowsL (fun _ => false) n.f2, dstC x y n.f0 ≤ dstR x y r) ∧ goodL x y n.f2) := by cases n; rfl
def rowsT (t : Th9) : List S37 := if t.leaf = true then [t.row] else t.node.f1 ++ rowsL (fun _ => false) t.node.f2
structure OkT (x y : Int) (t : Th9) : Prop where
 leaf : t.leaf = true → t.far = dstR x y t.row
 node : t.leaf = false → (∀ r ∈ rowsT t, t.far ≤ dstR x y r) ∧ goodL x y t.node.f2
structure NearInv (x y : Int) (S : List S37) (q : List Th9) (out : List S37) : Prop where
 rest : ∃ R, S = out ++ R ∧ (q.flatMap rowsT).Perm R
 sorted : q.Pairwise fun a b => ¬ ordT b a < 0
 ok : ∀ t ∈ q, OkT x y t
theorem NearInv.pop {x y : Int} {S : List S37} {t : Th9} {q : List Th9} {out : List S37} (hS : S.Pairwise (keyLt x y)) (h : NearInv x y S (t :: q) out) (hl : t.leaf = true) : NearInv x y S q (out ++ [t.row]) := by
 obtain ⟨⟨R, hR, hp⟩, hs, ho⟩ := h
 have hsp := List.pairwise_cons.1 hs
 have hrt : rowsT t = [t.row] := by unfold rowsT; rw [if_pos hl]
 rw [List.flatMap_cons, hrt, List.singleton_append] at hp
 have hmem : t.row ∈ R := hp.mem_iff.1 List.mem_cons_self
 refine ⟨?_, hsp.2, fun t' ht => ho t' (List.mem_cons_of_mem _ ht)⟩
 cases R with
 | nil => simp at hmem
 | cons s R =>
  have e : t.row = s := by
   apply Decidable.byContradiction
   intro hne
   have hmem2 : t.row ∈ R := (List.mem_cons.1 hmem).resolve_left hne
   have hk : keyLt x y s t.row := by
    rw [hR] at hS
    exact (List.pairwise_cons.1 (List.pairwise_append.1 hS).2.1).1 t.row hmem2
   have hs2 : s ∈ q.flatMap rowsT := (List.mem_cons.1 (hp.mem_iff.2 List.mem_cons_self)).resolve_left (fun e => hne e.symm)
   obtain ⟨t', ht', hst⟩ := List.mem_flatMap.1 hs2
   have hno := hsp.1 t' ht'
   rw [ordT_neg] at hno
   have ho1 := ho t' (List.mem_cons_of_mem _ ht')
   have hft := (ho t List.mem_cons_self).leaf hl
   cases hl' : t'.leaf with
   | true =>
    have hst2 : s = t'.row := by unfold rowsT at hst; rw [if_pos hl'] at hst; simpa using hst
    have hft' := ho1.leaf hl'
    rw [← hst2] at hft'
    apply hno
    rw [hft, hft', hl, hl']
    rcases hk with hk | hk
    ·exact .inl hk
    ·exact .inr ⟨hk.1, .inr ⟨rfl, by rw [← hst2]; exact hk.2⟩⟩
   | false =>
    have hb := (ho1.node hl').1 s hst
    apply hno
    rw [hft, hl, hl']
    have hk2 : dstR x y s ≤ dstR x y t.row := by rcases hk with hk | hk <;> omega
    by_cases hlt : t'.far < dstR x y t.row
    ·exact .inl hlt
    ·exact .inr ⟨by omega, .inl ⟨rfl, rfl⟩⟩
  subst e
  exact ⟨R, by rw [hR]; simp, (List.perm_cons _).1 hp⟩
theorem NearInv.open_ {x y : Int} {S : List S37} {t : Th9} {q q2 q3 : List Th9} {out : List S37} (h : NearInv x y S (t :: q) out) (hl : t.leaf = false) (hrows : q2.flatMap rowsT = t.node.f1 ++ rowsL (fun _ => false) t.node.f2) (hok : ∀ t' ∈ q2, OkT x y t') (hperm : q3.Perm (q ++ q2)) (hsort : q3.Pairwise fun a b => ¬ ordT b a < 0) : NearInv x y S q3 out := by
 obtain ⟨⟨R, hR, hp⟩, hs, ho⟩ := h
 refine ⟨⟨R, hR, ?_⟩, hsort, fun t' ht => ?_⟩
 ·have h1 : (q3.flatMap rowsT).Perm ((q ++ q2).flatMap rowsT) := hperm.flatMap_right _
  rw [List.flatMap_append, hrows] at h1
  have hrt : rowsT t = t.node.f1 ++ rowsL (fun _ => false) t.node.f2 := by unfold rowsT; rw [if_neg (by rw [hl]; simp)]
  rw [List.flatMap_cons, hrt] at hp
  exact h1.trans (List.perm_append_comm.trans hp)
 ·rcases List.mem_append.1 (hperm.mem_iff.1 ht) with h1 | h1
  ·exact ho t' (List.mem_cons_of_mem _ h1)
  ·exact hok t' h1
theorem NearInv.done {x y : Int} {S : List S37} {q : List Th9} {out : List S37} {k : Nat} (h : NearInv x y S q out) (hk : out.length ≤ k) (he : q = [] ∨ k ≤ out.length) : out = S.take k := by
 obtain ⟨⟨R, hR, hp⟩, _, _⟩ := h
 rcases he with rfl | he
 ·have : R = [] := List.nil_perm.1 hp
  subst this
  rw [hR, List.append_nil, List.take_of_length_le hk]
 ·have : out.length = k := by omega
  rw [hR, List.take_append_of_le_length (by omega), List.take_of_length_le (by omega)]
mutual
def wN : S44 → Nat
 | ⟨_, rs, ks⟩ => 1 + rs.length + wL ks
def wL : List S44 → Nat
 | [] => 0
 | n :: l => wN n + wL l
end
def wT (t : Th9) : Nat := if t.leaf = true then 1 else wN t.node
def wQ (q : List Th9) : Nat := (q.map wT).sum
theorem wN_eq (n : S44) : wN n = 1 + n.f1.length + wL n.f2 := by cases n; rfl
theorem wT_pos (t : Th9) : 1 ≤ wT t := by unfold wT; split; exact Nat.le_refl _; rw [wN_eq]; omega
theorem wQ_cons (t : Th9) (q : List Th9) : wQ (t :: q) = wT t + wQ q := by simp [wQ]
theorem wQ_append (a b : List Th9) : wQ (a ++ b) = wQ a + wQ b := by simp [wQ]
theorem wQ_len : ∀ (q : List Th9), q.length ≤ wQ q
 | [] => Nat.zero_le _
 | t :: q => by rw [wQ_cons, List.length_cons]; have := wT_pos t; have := wQ_len q; omega
theorem wN_pos (n : S44) : 1 ≤ wN n := by rw [wN_eq]; omega
theorem wL_len : ∀ (l : List S44), l.length ≤ wL l
 | [] => Nat.zero_le _
 | n :: l => by rw [wL, List.length_cons]; have := wN_pos n; have := wL_len l; omega
theorem wQ_perm {a b : List Th9} (h : a.Perm b) : wQ a = wQ b := (h.map wT).sum_nat
mutual
theorem wN_rows : ∀ (n : S44), (rowsN (fun _ => false) n).length ≤ wN n
 | ⟨c, rs, ks⟩ => by
  have := wL_rows ks
  rw [wN, rowsN, if_neg (by simp), List.length_append]
  omega
theorem wL_rows : ∀ (l : List S44), (rowsL (fun _ => false) l).length ≤ wL l
 | [] => by rw [rowsL]; exact Nat.zero_le _
 | n :: l => by
  have := wN_rows n
  have := wL_rows l
  rw [wL, rowsL, List.length_append]
  omega
end
def thR (x y : Int) (r : S37) : Th9 := ⟨dstR x y r, 0, 0, 0, none, 0, 0, none, 0, 0, r, true, ⟨⟨0, 0, 0⟩, [], []⟩⟩
def thN (d : Int) (n : S44) (A3 : Option Addr) (k3 : Nat) (A4 : Option Addr) (k4 : Nat) : Th9 := ⟨d, n.f0.f0, n.f0.f1, n.f0.f2, A3, n.f1.length, k3, A4, n.f2.length, k4, ⟨0, 0, 0, ⟨#[]⟩⟩, false, n⟩
theorem thR_wQ (x y : Int) : ∀ (l : List S37), wQ (l.map (thR x y)) = l.length
 | [] => rfl
 | r :: l => by rw [List.map_cons, wQ_cons, thR_wQ x y l]; simp [wT, thR]; omega
theorem thR_rows (x y : Int) : ∀ (l : List S37), (l.map (thR x y)).flatMap rowsT = l
 | [] => rfl
 | r :: l => by rw [List.map_cons, List.flatMap_cons, thR_rows x y l]; simp [rowsT, thR]
structure KidsT (x y : Int) (ks : List S44) (tn : List Th9) : Prop where
 n : tn.map (·.node) = ks
 t : ∀ t ∈ tn, t.leaf = false ∧ t.far = dstC x y t.node.f0
theorem KidsT.wQ {x y : Int} {ks : List S44} {tn : List Th9} (h : KidsT x y ks tn) : wQ tn = wL ks := by
 induction tn generalizing ks with
 | nil => have := h.n; simp at this; subst this; rfl
 | cons a tn ih =>
  have hn := h.n
  rw [List.map_cons] at hn
  subst hn
  have ha := (h.t a List.mem_cons_self).1
  rw [wQ_cons, wL, ih ⟨rfl, fun t ht => h.t t (List.mem_cons_of_mem _ ht)⟩]
  unfold wT
  rw [if_neg (by rw [ha]; simp)]
theorem KidsT.rows {x y : Int} {ks : List S44} {tn : List Th9} (h : KidsT x y ks tn) : tn.flatMap rowsT = rowsL (fun _ => false) ks := by
 induction tn generalizing ks with
 | nil => have := h.n; simp at this; subst this; rfl
 | cons a tn ih =>
  have hn := h.n
  rw [List.map_cons] at hn
  subst hn
  have ha := (h.t a List.mem_cons_self).1
  rw [List.flatMap_cons, rowsL, ih ⟨rfl, fun t ht => h.t t (List.mem_cons_of_mem _ ht)⟩, rowsN_eq, if_neg (by simp)]
  unfold rowsT
  rw [if_neg (by rw [ha]; simp)]
theorem KidsT.ok {x y : Int} {ks : List S44} {tn : List Th9} (h : KidsT x y ks tn) (hg : goodL x y ks) : ∀ t ∈ tn, OkT x y t := by
 intro t ht
 obtain ⟨hl, hf⟩ := h.t t ht
 refine ⟨fun e => (by rw [hl] at e; cases e), fun _ => ?_⟩
 have hm : t.node ∈ ks := by rw [← h.n]; exact List.mem_map_of_mem ht
 have hgn := goodL_mem hm hg
 rw [goodN_eq] at hgn
 refine ⟨fun r hr => ?_, hgn.2⟩
 rw [hf]
 refine hgn.1 r ?_
 unfold rowsT at hr
 rwa [if_neg (by rw [hl]; simp)] at hr
theorem thR_ok (x y : Int) (l : List S37) : ∀ t ∈ l.map (thR x y), OkT x y t := by
 intro t ht
 obtain ⟨r, _, rfl⟩ := List.mem_map.1 ht
 exact ⟨fun _ => rfl, fun e => by cases e⟩
end Go.Proofs.YtoimgijhekahhaaGreat.P

/- Layer 9, quad: things (nodes and rows, how far they are), their order (quad.order): walked. -/
import Derived.Test.YtoimgijhekahhaaPx8
import Derived.Test.YtoimgijhekahhaaPx801
import Derived.Test.YtoimgijhekahhaaPx302
namespace Go.Proofs.Ytoimgijhekahhaa.P
open Go.RowKit Go.Sort Go.Lib Go.Shelf Go.Proofs.YtoimgijhekahhaaOwn Go.Proofs.YtoimgijhekahhaaSort Go.Proofs.YtoimgijhekahhaaW.PrintWords Go.Proofs.YtoimgijhekahhaaW.PrintLast Go.Proofs.YtoimgijhekahhaaW.PrintMore
set_option linter.unusedVariables false
set_option linter.unusedSimpArgs false
/-- A thing, as its cells lie. -/
structure Th9 where
  far : Int
  c0 : Int
  c1 : Int
  c2 : Int
  A3 : Option Addr
  n3 : Nat
  k3 : Nat
  A4 : Option Addr
  n4 : Nat
  k4 : Nat
  row : S54
  leaf : Bool
  node : S42   -- what is told of the node; it lies in no cell
def encT (t : Th9) : List Value := [.int .u64 t.far, .int .u32 t.c0, .int .u32 t.c1, .int .i64 t.c2, .slice t.A3 t.n3 t.k3, .slice t.A4 t.n4 t.k4, .int .u64 t.row.f0, .int .u32 t.row.f1, .int .u32 t.row.f2, .string t.row.f3, .bool t.leaf]
def ordT (a b : Th9) : Int := if a.far = b.far then (if a.leaf = b.leaf then cmpI a.row.f0 b.row.f0 else (if b.leaf = true then -1 else 1)) else cmpI a.far b.far
set_option maxRecDepth 100000 in
set_option maxHeartbeats 4000000 in
theorem order_calls (x y : Th9) (W : World) : Calls Try.prog 44 #[.agg (encT x).toArray, .agg (encT y).toArray] W fun e w' => e = .returned (.int .i64 (ordT x y)) ∧ ∃ q os', w' = grow (W.drewN q) os' := by
  obtain ⟨fx, x0, x1, x2, xA, xn, xk, xB, xm, xc, rx, lx, nx⟩ := x
  obtain ⟨fy, y0, y1, y2, yA, yn, yk, yB, ym, yc, ry, ly, ny⟩ := y
  unfold encT ordT
  dsimp only
  by_cases hf : fx = fy
  · have hfb : (fx != fy) = false := bne_eq_false_iff_eq.2 hf
    rw [if_pos hf]
    cases lx <;> cases ly
    · rw [if_pos rfl]
      clear hf
      go_enter Try.func44, Try.ntmps44
      go_wp2_with (go_at_call 62; refine (cmp_Compare_uint64.calls rx.f0 ry.f0 (cmpI rx.f0 ry.f0) _ (cmp_fI _ _)).mono ?_; rintro e w1 ⟨rfl, hb⟩)
      obtain ⟨q, rfl⟩ := hb.out
      go_ret
      exact ⟨rfl, q, _, by rw [alloc_eq_grow, alloc_eq_grow, grow_grow, drewN_grow]⟩
    · rw [if_neg (by simp), if_pos rfl]
      clear hf
      go_enter Try.func44, Try.ntmps44
      go_wp2
      go_ret
      exact ⟨rfl, 0, _, by rw [alloc_eq_grow, alloc_eq_grow, grow_grow]; rfl⟩
    · rw [if_neg (by simp), if_neg (by simp)]
      clear hf
      go_enter Try.func44, Try.ntmps44
      go_wp2
      go_ret
      exact ⟨rfl, 0, _, by rw [alloc_eq_grow, alloc_eq_grow, grow_grow]; rfl⟩
    · rw [if_pos rfl]
      clear hf
      go_enter Try.func44, Try.ntmps44
      go_wp2_with (go_at_call 62; refine (cmp_Compare_uint64.calls rx.f0 ry.f0 (cmpI rx.f0 ry.f0) _ (cmp_fI _ _)).mono ?_; rintro e w1 ⟨rfl, hb⟩)
      obtain ⟨q, rfl⟩ := hb.out
      go_ret
      exact ⟨rfl, q, _, by rw [alloc_eq_grow, alloc_eq_grow, grow_grow, drewN_grow]⟩
  · have hfb : (fx != fy) = true := bne_iff_ne.2 hf
    rw [if_neg hf]
    clear hf
    go_enter Try.func44, Try.ntmps44
    go_wp2_with (go_at_call 62; refine (cmp_Compare_uint64.calls fx fy (cmpI fx fy) _ (cmp_fI _ _)).mono ?_; rintro e w1 ⟨rfl, hb⟩)
    obtain ⟨q, rfl⟩ := hb.out
    go_ret
    exact ⟨rfl, q, _, by rw [alloc_eq_grow, alloc_eq_grow, grow_grow, drewN_grow]⟩
theorem ordT_neg {a b : Th9} : ordT a b < 0 ↔ a.far < b.far ∨ (a.far = b.far ∧ ((a.leaf = false ∧ b.leaf = true) ∨ (a.leaf = b.leaf ∧ a.row.f0 < b.row.f0))) := by
  unfold ordT
  by_cases hf : a.far = b.far
  · rw [if_pos hf]
    by_cases hl : a.leaf = b.leaf
    · rw [if_pos hl, cmpI_neg]
      constructor
      · intro h; exact .inr ⟨hf, .inr ⟨hl, h⟩⟩
      · rintro (h | ⟨_, h | ⟨_, h⟩⟩)
        · omega
        · rw [h.1, h.2] at hl; cases hl
        · exact h
    · rw [if_neg hl]
      cases ha : a.leaf <;> cases hb : b.leaf
      · rw [ha, hb] at hl; exact absurd rfl hl
      · rw [if_pos rfl]
        exact ⟨fun _ => .inr ⟨hf, .inl ⟨rfl, rfl⟩⟩, fun _ => by decide⟩
      · rw [if_neg (by simp)]
        constructor
        · intro h; exact absurd h (by decide)
        · rintro (h | ⟨_, h | ⟨h, _⟩⟩)
          · omega
          · cases h.1
          · cases h
      · rw [ha, hb] at hl; exact absurd rfl hl
  · rw [if_neg hf, cmpI_neg]
    constructor
    · intro h; exact .inl h
    · rintro (h | h)
      · exact h
      · exact absurd h.1 hf
theorem swoT : SWO (ltOf ordT) where
  irrefl x := by unfold ltOf; rw [decide_eq_false_iff_not, ordT_neg]; rintro (h | ⟨_, h | ⟨_, h⟩⟩) <;> first | omega | (rw [h.1] at h; cases h.2)
  trans x y z h1 h2 := by
    unfold ltOf at *
    rw [decide_eq_true_eq, ordT_neg] at *
    rcases h1 with h1 | ⟨e1, h1⟩
    · rcases h2 with h2 | ⟨e2, h2⟩ <;> exact .inl (by omega)
    · rcases h2 with h2 | ⟨e2, h2⟩
      · exact .inl (by omega)
      · refine .inr ⟨by omega, ?_⟩
        rcases h1 with ⟨a1, a2⟩ | ⟨a1, a2⟩ <;> rcases h2 with ⟨b1, b2⟩ | ⟨b1, b2⟩
        · rw [a2] at b1; cases b1
        · exact .inl ⟨a1, by rw [← b1]; exact a2⟩
        · exact .inl ⟨by rw [a1]; exact b1, b2⟩
        · exact .inr ⟨by rw [a1]; exact b1, by omega⟩
  ntrans x y z h1 h2 := by
    unfold ltOf at *
    rw [decide_eq_false_iff_not, ordT_neg] at *
    rintro (h | ⟨e, h⟩)
    · have a1 : ¬ x.far < y.far := fun q => h1 (.inl q)
      have a2 : ¬ y.far < z.far := fun q => h2 (.inl q)
      omega
    · have a1 : ¬ x.far < y.far := fun q => h1 (.inl q)
      have a2 : ¬ y.far < z.far := fun q => h2 (.inl q)
      have e1 : x.far = y.far := by omega
      have e2 : y.far = z.far := by omega
      have b1 : ¬ ((x.leaf = false ∧ y.leaf = true) ∨ (x.leaf = y.leaf ∧ x.row.f0 < y.row.f0)) := fun q => h1 (.inr ⟨e1, q⟩)
      have b2 : ¬ ((y.leaf = false ∧ z.leaf = true) ∨ (y.leaf = z.leaf ∧ y.row.f0 < z.row.f0)) := fun q => h2 (.inr ⟨e2, q⟩)
      cases hx : x.leaf <;> cases hy : y.leaf <;> cases hz : z.leaf <;> simp_all <;> omega
instance : Inhabited Th9 := ⟨⟨0, 0, 0, 0, none, 0, 0, none, 0, 0, z54, false, z42⟩⟩
set_option maxRecDepth 100000 in
set_option maxHeartbeats 4000000 in
theorem sortThings_calls (w : World) (base : Nat) (v : Value) (l : List Th9) (h : QRow w base 80 11 v l.length (l.flatMap encT)) (hlen : l.length < 4611686018427387904) :
    Calls Try.prog 43 #[v, .func (.func 44) #[] #[]] w fun e w' => e = .returned (.tuple #[]) ∧ ∃ l' : List Th9, l'.Perm l ∧ l'.Pairwise (fun a b => ¬ ordT b a < 0) ∧ QRow w' base 80 11 v l.length (l'.flatMap encT) ∧ w.grownBy w' v.ownBlock := by
  exact sort_row sortThing 11 (by decide) Try.isAgg80 Try.sizeOf80 encT (fun _ => rfl) (fun x v hv => by simp [encT] at hv; rcases hv with rfl | rfl | rfl | rfl | rfl | rfl | rfl | rfl | rfl | rfl | rfl <;> rfl) ordT swoT 44 #[]
    (enters_of Try.func44 (by kernel_rfl) rfl) base 80 v l w h hlen (fun blk off m os dk _ x y => order_calls x y _)
theorem info74_ : (Try.prog.info? 80).map (fun i => (i.zero, i.size, i.bytes)) = some (some (.agg #[.int .u64 0, .int .u32 0, .int .u32 0, .int .i64 0, .slice none 0 0, .slice none 0 0, .int .u64 0, .int .u32 0, .int .u32 0, .string ⟨#[]⟩, .bool false]), 11, 112) := by kernel_rfl
theorem encT_one (t : Th9) : ∀ v ∈ encT t, v.oneCell' = true := fun v hv => by simp [encT] at hv; rcases hv with rfl | rfl | rfl | rfl | rfl | rfl | rfl | rfl | rfl | rfl | rfl <;> rfl
/-- A thing put behind a queue. -/
theorem t9_run {w0 W : World} (base : Nat) (ty : TypeId) (v : Value) (q : List Th9) (t : Th9) (cs : List Value) (hcs : encT t = cs) (hQ : QRow W base 80 11 v q.length (q.flatMap encT)) (HB : Below base w0 W) (hbase : base ≤ W.heap.size) (hl : q.length ≤ 1000000) :
    ∃ v1 w1, (Builtin.append_ #[81, 81] ty #[v, .slice (some ⟨W.heap.size, 0, none⟩) 1 1]).run Try.prog (W.alloc (.cells cs.toArray 80)) = .ok v1 w1 ∧ QRow w1 base 80 11 v1 (q ++ [t]).length ((q ++ [t]).flatMap encT) ∧ Below base w0 w1 ∧ W.grownBy w1 v.ownBlock ∧ (v1.ownBlock = v.ownBlock ∨ ∃ b, v1.ownBlock = some b ∧ W.heap.size ≤ b) := by
  subst hcs
  obtain ⟨i0, hi, hi0, hi1, hi2⟩ := info_parts info74_
  have hq : QRow (W.alloc (.cells (encT t).toArray 80)) base 80 11 v q.length (q.flatMap encT) := q_move hQ (fun k hk => Below.heap_alloc W _ k (q_lt hQ k hk))
  obtain ⟨v1, w1, hrun, hq1, hg1, hat⟩ := q_append (P := Try.prog) (W.alloc (.cells (encT t).toArray 80)) base 81 ty 80 i0 _ 11 112 Try.underlying81 hi hi0 hi1 hi2 rfl (by decide) v q.length (q.flatMap encT) hq ⟨W.heap.size, 0, none⟩ 1 1 (encT t) rfl
    (by simpa using World.news_of_block (cs := (encT t).toArray) (t := 80) (fr := (0, 0)) (heap_alloc_new W (.cells (encT t).toArray 80))) (encT_one t) (by omega) (by simp only [maxLen]; omega) (by omega) (by simp; omega)
  have hg : W.grownBy w1 v.ownBlock := World.grownBy.trans (World.grownBy_alloc W _ _) hg1
  exact ⟨v1, w1, hrun, by rw [List.length_append, List.length_singleton, List.flatMap_append, List.flatMap_singleton]; exact hq1, HB.grown hg hbase (fun k hk => (q_typed hQ k hk).1), hg, hat.imp id (fun ⟨b, h1, h2⟩ => ⟨b, h1, by rw [World.size_alloc] at h2; omega⟩)⟩
section
variable {ops : Array Oper} {rest : List Oper} {o : Oper} {a : Act} {Q' : Exit → Act → World → Prop} {Kc : Act → World → Prop}
theorem t9_append {w0 W : World} (base : Nat) (hgd : o.guard = none) (s x : Operand) (ho : o.op = .call { callee := .builtin .append, args := #[s, x], argTypes := #[81, 81] })
    (v : Value) (q : List Th9) (t : Th9) (cs : List Value) (hcs : encT t = cs) (hs : a.eval s = v) (hx : a.eval x = .slice (some ⟨W.heap.size, 0, none⟩) 1 1) (hQ : QRow W base 80 11 v q.length (q.flatMap encT)) (HB : Below base w0 W) (hbase : base ≤ W.heap.size) (hl : q.length ≤ 1000000)
    (h : ∀ v1 w1, QRow w1 base 80 11 v1 (q ++ [t]).length ((q ++ [t]).flatMap encT) → Below base w0 w1 → W.grownBy w1 v.ownBlock → (v1.ownBlock = v.ownBlock ∨ ∃ b, v1.ownBlock = some b ∧ W.heap.size ≤ b) → wpList Try.prog ops Q' rest (a.put o.dst v1) w1) :
    wpList Try.prog ops Q' (o :: rest) a (W.alloc (.cells cs.toArray 80)) := by
  obtain ⟨v1, w1, hr, h1, h2, h3, h4⟩ := t9_run base o.type v q t cs hcs hQ HB hbase hl
  refine wpList_plain hgd fun K hK => ?_
  unfold Oper.wp execOp
  simp only [ho, resolve, invoke, builtin, Sem.run_bind, Sem.run_pure, Result.andThen_ok, List.map_toArray, List.map_cons, List.map_nil, hs, hx, hr]
  exact hK _ _ (h v1 w1 h1 h2 h3 h4)
theorem t9_step {w0 W : World} (base : Nat) (hw : Region.wanted o (yielded ops a.tmps) = true) (s x : Operand) (ho : o.op = .call { callee := .builtin .append, args := #[s, x], argTypes := #[81, 81] })
    (v : Value) (q : List Th9) (t : Th9) (cs : List Value) (hcs : encT t = cs) (hs : a.eval s = v) (hx : a.eval x = .slice (some ⟨W.heap.size, 0, none⟩) 1 1) (hQ : QRow W base 80 11 v q.length (q.flatMap encT)) (HB : Below base w0 W) (hbase : base ≤ W.heap.size) (hl : q.length ≤ 1000000)
    (h : ∀ v1 w1, QRow w1 base 80 11 v1 (q ++ [t]).length ((q ++ [t]).flatMap encT) → Below base w0 w1 → W.grownBy w1 v.ownBlock → (v1.ownBlock = v.ownBlock ∨ ∃ b, v1.ownBlock = some b ∧ W.heap.size ≤ b) → Kc (a.put o.dst v1) w1) :
    if Region.wanted o (yielded ops a.tmps) = true then Oper.wp Try.prog o a (W.alloc (.cells cs.toArray 80)) Kc Q' else Kc (a.put o.dst undef) (W.alloc (.cells cs.toArray 80)) := by
  obtain ⟨v1, w1, hr, h1, h2, h3, h4⟩ := t9_run base o.type v q t cs hcs hQ HB hbase hl
  rw [if_pos hw]
  unfold Oper.wp execOp
  simp only [ho, resolve, invoke, builtin, Sem.run_bind, Sem.run_pure, Result.andThen_ok, List.map_toArray, List.map_cons, List.map_nil, hs, hx, hr]
  exact h v1 w1 h1 h2 h3 h4
end
end Go.Proofs.Ytoimgijhekahhaa.P

/- Layer 11, find: all pieces (find.All): walked. -/
import Derived.Test.YtoimgijhekahhaaGreatFindU
import Derived.Deep.Upon
import Derived.Maps.OwnIn
namespace Go.Proofs.YtoimgijhekahhaaGreat.P
open Go.RowKit Go.Proofs.YtoimgijhekahhaaGreatOwn Go.Proofs.YtoimgijhekahhaaGreatW.PrintWords Go.Proofs.YtoimgijhekahhaaGreatW.PrintLast Go.Proofs.YtoimgijhekahhaaGreatW.PrintMore
set_option linter.unusedVariables false
set_option linter.unusedSimpArgs false
attribute [local go_sem] Oper.semAt_some
theorem wpListIn_append_nothing {F : Fence} {n : Nat} {P : Program} (w : World) {ops : Array Oper} {rest : List Oper} {o : Oper} {a : Act} {Q : Exit → Act → World → Prop}
  (hg : o.guard = none) (s x : Operand) (t : TypeId) (hop : o.op = Op.call { callee := Callee.builtin Builtin.append, args := #[s, x], argTypes := #[t, t] })
  (e : TypeId) (i : TypeInfo) (h1 : P.underlying t = some (.slice e)) (h2 : P.info? e = some i) (base : Option Addr) (sLen sCap : Nat) (hle : sLen ≤ sCap) (hs : a.eval s = .slice base sLen sCap) (A : Option Addr) (c : Nat) (hx : a.eval x = .slice A 0 c)
  (hK : wpListIn F n P ops Q rest (a.put o.dst (.slice base sLen sCap)) w) : wpListIn F n P ops Q (o :: rest) a w := by
 refine wpListIn_plain hg fun K hK' => ?_
 have hrun : (Builtin.append_ #[t, t] o.type #[.slice base sLen sCap, .slice A 0 c]).run P w = .ok (.slice base sLen sCap) w := run_append_nothing w t t o.type e i h1 h2 base sLen sCap hle _ ⟨.inl ⟨e, h1⟩, fun w' => by simp [Builtin.lenOf], by cases A <;> simp [Builtin.firstCells, loadCells, loadCellsFrom], by cases A <;> simp [Builtin.firstCells, loadCells, loadCellsFrom], by simp, by simp⟩
 unfold Oper.wpIn
 refine ⟨?_, ?_⟩
 ·simp [Oper.about, hop, resolve, Target.leads, Sem.run_pure]
 ·rw [Oper.semAt_plain F _ _ (by rw [hop]; intro c hc'; cases hc')]
  simp [execOp, hop, resolve, invoke, builtin, hs, hx, hrun, Result.andThen]
  exact hK' _ _ hK
def allQ (l : List Row) (q : Q11) (most : Int) : List Row × Int :=
 if q.kind = 3 ∨ most < 0 then ([], 2) else if rightL l = true then (if checkP q = 0 then ((fullP l q).take (q.k.toNat * most.toNat), 0) else ([], checkP q)) else ([], 80)
def flatP (pre : List Pc) : List Row := pre.flatMap (·.rows)
theorem flatP_eq (pre : List Pc) : flatP pre = (pre.map (·.rows)).flatten := by unfold flatP; rw [List.flatMap_def]
structure AInv (most : Int) (wt V0 : World) (pre : List Pc) (V : World) : Prop where
 o : ∃ v : Value, v.oneCell' = true ∧ V.heap[wt.heap.size]? = some (.cells #[v] 22 (0, 0)) ∧ V.ownsRow V0.heap.size 37 4 v (flatP pre).length ((flatP pre).flatMap encR)
 c : V.heap[wt.heap.size + 1]? = some (.cells #[.int .i64 (pre.length : Int)] 3 (0, 0))
 b : Below wt.heap.size wt V
 z : V0.heap.size ≤ V.heap.size
 l : (pre.length : Int) ≤ most
 s : (flatP pre).length ≤ 64 * pre.length
theorem AInv.own {most : Int} {wt V0 : World} {Bq : Nat} (hB : wt.heap.size ≤ Bq ∧ Bq < V0.heap.size ∧ Bq ≠ wt.heap.size ∧ Bq ≠ wt.heap.size + 1) (hz : wt.heap.size + 2 ≤ V0.heap.size) : OwnE (fun r => r = Bq) V0.heap.size (AInv most wt V0) := fun pre X Y row h hg hr => by
 have hcell : ∀ {q : Nat} {cs : Array Value} {t : TypeId} {fr : Nat × Nat}, q ≠ Bq → X.heap[q]? = some (.cells cs t fr) → Y.heap[q]? = some (.cells cs t fr) := fun hq h1 => (hg.block _ (Array.getElem?_eq_some_iff.1 h1).1 (fun e => by
  rcases hr _ e.symm with h2 | ⟨_, o, h2, h3⟩
  ·exact hq h2
  ·rw [h1] at h2; cases h2; cases h3)).trans h1
 obtain ⟨v, hv1, hv2, hv3⟩ := h.o
 refine ⟨⟨v, hv1, hcell hB.2.2.1.symm hv2, hv3.kept hg ?_⟩, hcell hB.2.2.2.symm h.c, h.b.grown hg h.b.size (fun r e => ?_), Nat.le_trans h.z hg.size, h.l, h.s⟩
 ·cases hvb : v.ownBlock with
  | none => exact .inl rfl
  | some r =>
   refine .inr (fun e => ?_)
   obtain ⟨h1, cs, t, fr, hc, _⟩ := own_row hv3 r hvb
   rcases hr r e.symm with h2 | ⟨_, o, ho, hoc⟩
   ·omega
   ·rw [hc] at ho; cases ho; cases hoc
 ·rcases hr r e with h2 | ⟨h2, _⟩
  ·omega
  ·omega
theorem body_end {most : Int} {wt V0 V1 w5 : World} {pre : List Pc} {x : Pc} {v v5 : Value} (hv2 : V1.heap[wt.heap.size]? = some (.cells #[v] 22 (0, 0))) (hct : V1.heap[wt.heap.size + 1]? = some (.cells #[.int .i64 ((pre.length : Int) + 1)] 3 (0, 0)))
  (hb : Below wt.heap.size wt V1) (hz : V0.heap.size ≤ V1.heap.size) (h4 : wt.heap.size + 2 ≤ V0.heap.size) (hrow : ∀ r, v.ownBlock = some r → V0.heap.size ≤ r ∧ ∃ cs t fr, V1.heap[r]? = some (.cells cs t fr) ∧ t = 37)
  (hg : V1.grownBy w5 v.ownBlock) (ho : w5.ownsRow V0.heap.size 37 4 v5 (flatP pre ++ x.rows).length ((flatP pre ++ x.rows).flatMap encR)) (hv5 : v5.ownBlock = v.ownBlock ∨ v5.ownBlock = some V1.heap.size) (h1 : v5.oneCell' = true)
  (hm : (pre.length : Int) + 1 ≤ most) (hs : (flatP pre).length ≤ 64 * pre.length) (hx : x.rows.length ≤ 64) :
  KeepsFrom V0.heap.size V1 (w5.setCell ⟨wt.heap.size, 0, none⟩ v5) ∧ KeepO wt.heap.size wt.heap.size (wt.heap.size + 1) V1 (w5.setCell ⟨wt.heap.size, 0, none⟩ v5) ∧ AInv most wt V0 (pre ++ [x]) (w5.setCell ⟨wt.heap.size, 0, none⟩ v5) := by
 have hne : some wt.heap.size ≠ v.ownBlock := fun e => by have := (hrow _ e.symm).1; omega
 have hnc : some (wt.heap.size + 1) ≠ v.ownBlock := fun e => by have := (hrow _ e.symm).1; omega
 have hB5 := blk_grown hv2 hg hne
 have hC5 := blk_grown hct hg hnc
 have hne5 : some wt.heap.size ≠ v5.ownBlock := own_ne ho hB5 (by decide)
 have hk := KeepO.put_out (n₁ := wt.heap.size) (Bo := wt.heap.size) (Bc := wt.heap.size + 1) hv2 hg (by omega) (fun r e => by have := (hrow r e).1; omega) (Nat.le_refl _) hne hv5 (fun r e => own_lt ho r e)
 refine ⟨(KeepsFrom.of_grown hg (fun r e => by obtain ⟨_, cs, t, fr, h, _⟩ := hrow r e; exact ⟨_, h, rfl⟩)).trans (KeepsFrom.of_grown (grown_set w5 wt.heap.size 0 v5) (fun r e => by cases e; exact ⟨_, hB5, rfl⟩)), hk, ⟨⟨v5, h1, boxc_set hB5 0 v5, ?_⟩, ?_, hb.trans hk.below, ?_, ?_, ?_⟩⟩
 ·have hf : flatP (pre ++ [x]) = flatP pre ++ x.rows := by unfold flatP; rw [List.flatMap_append]; simp
  rw [hf]
  exact own_setCell ho hne5 v5
 ·have := boxc_far hC5 (a := ⟨wt.heap.size, 0, none⟩) (by show wt.heap.size + 1 ≠ wt.heap.size; omega) v5
  rw [List.length_append, List.length_singleton]
  exact this
 ·have := hg.size
  simp
  omega
 ·rw [List.length_append, List.length_singleton]; omega
 ·have hf : flatP (pre ++ [x]) = flatP pre ++ x.rows := by unfold flatP; rw [List.flatMap_append]; simp
  rw [hf, List.length_append, List.length_append, List.length_singleton]
  omega
set_option maxRecDepth 100000 in
set_option maxHeartbeats 8000000 in
theorem All_calls (k : Nat) (hk : 128 ≤ k) (A : Option Addr) (c : Nat) (l : List Row) (wl : ∀ s ∈ l, wfRow s) (hl : l.length ≤ 60) (q : Q11) (wq : wfQ q) (most : Int) (hmost : -9223372036854775808 ≤ most ∧ most ≤ 100) (w : World) (hC : Kd.C k37 w A l.length l) (hc : l.length ≤ c) :
  Calls Tryz.prog 5 #[.slice A l.length c, .agg (encQ q), .int .i64 most] w fun e w' => ∃ v, e = .returned (.tuple #[v, .int .i64 (allQ l q most).2]) ∧ Kd.R k37 37 w' w.heap.size (fun _ => True) v (allQ l q most).1 ∧ Below w.heap.size w w' := by
 obtain ⟨w0, hw0⟩ : ∃ w0, (w.alloc (.cells #[.int .i64 q.kind, .int .u32 q.b0, .int .u32 q.b1, .int .u32 q.b2, .int .u32 q.b3, .int .u32 q.x, .int .u32 q.y, .int .u64 q.sq, .int .i64 q.k, .int .u64 q.after, .bool q.from_] 28)).alloc (.cells #[.int .i64 most] 3) = w0 := ⟨_, rfl⟩
 have hB := Aside0.mk (show Below w.heap.size w w0 by rw [← hw0]; exact below_alloc' (below_alloc' (Below.refl _ w) _) _)
 have hX := Aside0.mk (show w0.heap[w.heap.size]? = some (.cells #[.int .i64 q.kind, .int .u32 q.b0, .int .u32 q.b1, .int .u32 q.b2, .int .u32 q.b3, .int .u32 q.x, .int .u32 q.y, .int .u64 q.sq, .int .i64 q.k, .int .u64 q.after, .bool q.from_] 28 (0, 0)) by rw [← hw0]; exact boxc_alloc (boxc_new w _ _) _)
 have hM := Aside0.mk (show w0.heap[w.heap.size + 1]? = some (.cells #[.int .i64 most] 3 (0, 0)) by rw [← hw0]; have := boxc_new (w.alloc (.cells #[.int .i64 q.kind, .int .u32 q.b0, .int .u32 q.b1, .int .u32 q.b2, .int .u32 q.b3, .int .u32 q.x, .int .u32 q.y, .int .u64 q.sq, .int .i64 q.k, .int .u64 q.after, .bool q.from_] 28)) #[.int .i64 most] 3; rw [World.size_alloc] at this; exact this)
 have HC := Aside0.mk hC
 clear hC
 have hu := Tryz.underlying44
 refine (callsIn_wide (n := 9)).1 ?_
 refine callsIn_of_wp_marks Tryz.func5 rfl trivial ?_ rfl
 simp only [Tryz.ntmps5, List.size_toArray, List.length_cons, List.length_nil, Nat.reduceAdd, Nat.reduceSub, Array.replicate_succ, Array.replicate_zero, List.push_toArray, List.append_toArray, List.nil_append, List.cons_append]
 unfold encQ
 have x0 := boxc_cell hX.out 0
 have y0 := boxc_cell hM.out 0
 by_cases hbad : q.kind = 3 ∨ most < 0
 ·have hres : allQ l q most = ([], 2) := by unfold allQ; rw [if_pos hbad]
  rw [hres]
  by_cases h3 : q.kind = 3
  ·have e3 : (q.kind == 3) = true := beq_iff_eq.2 h3
   clear hbad h3 hres
   gi_wp2_with fail
   refine wpIn_scope_wide ?_
   gi_wp2_with fail
   rw [Exit.noGoto_ret]
   exact ⟨.tuple #[.slice none 0 0, .int .i64 2], by simp [results, Tryz.results5, go_sem], _, rfl, Kd.R_nil _ _ _ _ _, hB.out⟩
  ·have e3 : (q.kind == 3) = false := beq_eq_false_iff_ne.2 h3
   have em : decide (most < 0) = true := decide_eq_true (hbad.resolve_left h3)
   clear hbad h3 hres
   gi_wp2_with fail
   refine wpIn_scope_wide ?_
   gi_wp2_with fail
   rw [Exit.noGoto_ret]
   exact ⟨.tuple #[.slice none 0 0, .int .i64 2], by simp [results, Tryz.results5, go_sem], _, rfl, Kd.R_nil _ _ _ _ _, hB.out⟩
 ·have e3 : (q.kind == 3) = false := beq_eq_false_iff_ne.2 (fun h => hbad (.inl h))
  have em : decide (most < 0) = false := decide_eq_false (fun h => hbad (.inr h))
  obtain ⟨n, er, hbf, her, hn⟩ : ∃ (n : Nod) (er : Int), quad_Build.f k l = some (n.1, n.2.1, n.2.2.1, n.2.2.2.1, n.2.2.2.2, er) ∧ errQ q er = (if rightL l = true then checkP q else 80) ∧ (rightL l = true → n = T9 l) := by
   cases hr : rightL l with
   | false => exact ⟨(0, 0, 0, [], []), 80, build_bad hr hl hk, by unfold errQ; rw [if_neg (by decide), if_neg (by simp)], fun h => by cases h⟩
   | true => exact ⟨T9 l, 0, build_good (good_of wl hl hr) hr hk, by unfold errQ; rw [if_pos rfl, if_pos rfl], fun _ => rfl⟩
  have HBF := Aside0.mk hbf
  have HER := Aside0.mk her
  have HNN := Aside0.mk hn
  have HBAD := Aside0.mk hbad
  clear hbf her hn hbad
  have x1 := boxc_cell hX.out 1
  have x2 := boxc_cell hX.out 2
  have x3 := boxc_cell hX.out 3
  have x4 := boxc_cell hX.out 4
  have x5 := boxc_cell hX.out 5
  have x6 := boxc_cell hX.out 6
  have x7 := boxc_cell hX.out 7
  have x8 := boxc_cell hX.out 8
  have x9 := boxc_cell hX.out 9
  have x10 := boxc_cell hX.out 10
  have f25 : Fence.wide.fn 10 := trivial
  have f45 : Fence.wide.fn 11 := trivial
  obtain ⟨er1, hre⟩ : ∃ er1, errQ q er = er1 := ⟨_, rfl⟩
  have HE1 := Aside0.mk hre
  by_cases hz : er1 = 0
  case neg =>
   have he1 : (er1 != 0) = true := bne_iff_ne.2 hz
   have hres : allQ l q most = ([], er1) := by
    unfold allQ
    rw [if_neg HBAD.out]
    have h1 := HER.out
    rw [hre] at h1
    cases hr : rightL l with
    | false => rw [hr, if_neg (by simp)] at h1; rw [if_neg (by simp), h1]
    | true =>
     rw [hr, if_pos rfl] at h1
     rw [if_pos rfl, if_neg (by rw [← h1]; exact hz), h1]
   rw [hres]
   clear hz hres
   gi_wp2_with fail
   refine wpIn_scope_wide ?_
   gi_wp2_with (gi_at_call 10; refine (callsIn_wide.2 (treeF_calls k q A c l n er w0 (Kd.C_below HC.out hB.out) hc HBF.out)).mono ?_; rintro e w1 ⟨A3, c3, A4, c4, rfl, hT, hb1⟩; rw [hre]; have HT := Aside0.mk hT; have B1 := Aside0.mk (below_call hB.out hb1); have X1 := Aside0.mk (boxc_below hX.out hb1); have M1 := Aside0.mk (boxc_below hM.out hb1); clear hre hT hb1 x0 x1 x2 x3 x4 x5 x6 x7 x8 x9 x10 y0 hX hM hB)
   rw [Exit.noGoto_ret]
   exact ⟨.tuple #[.slice none 0 0, .int .i64 er1], by simp [results, Tryz.results5, go_sem], _, rfl, Kd.R_nil _ _ _ _ _, below_alloc' B1.out _⟩
  have he1 : (er1 != 0) = false := bne_eq_false_iff_eq.2 hz
  have hgd : rightL l = true ∧ checkP q = 0 := by
   have h1 := HER.out
   rw [hre, hz] at h1
   cases hr : rightL l with
   | false => rw [hr, if_neg (by simp)] at h1; omega
   | true => rw [hr, if_pos rfl] at h1; exact ⟨rfl, h1.symm⟩
  obtain rfl : n = T9 l := HNN.out hgd.1
  obtain ⟨F, hF⟩ : ∃ F, fullP l q = F := ⟨_, rfl⟩
  obtain ⟨K, hK⟩ : ∃ K, q.k.toNat = K := ⟨_, rfl⟩
  have hres : allQ l q most = (F.take (K * most.toNat), 0) := by
   unfold allQ
   rw [if_neg HBAD.out, if_pos hgd.1, if_pos hgd.2, hF, hK]
  rw [hres]
  have HGD := Aside0.mk hgd
  have HF := Aside0.mk hF
  have HK := Aside0.mk hK
  have HWL := Aside0.mk wl
  clear hz hres hgd hF hK wl
  gi_wp2_with fail
  refine wpIn_scope_wide ?_
  gi_wp2_with (gi_at_call 10; refine (callsIn_wide.2 (treeF_calls k q A c l (T9 l) er w0 (Kd.C_below HC.out hB.out) hc HBF.out)).mono ?_; rintro e w1 ⟨A3, c3, A4, c4, rfl, hT, hb1⟩; rw [hre]; have HT := Aside0.mk hT; have B1 := Aside0.mk (below_call hB.out hb1); have X1 := Aside0.mk (boxc_below hX.out hb1); have M1 := Aside0.mk (boxc_below hM.out hb1); clear hre hT hb1 x0 x1 x2 x3 x4 x5 x6 x7 x8 x9 x10 y0 hX hM hB)
  refine wpIn_label ?_
  obtain ⟨wt, hwt⟩ : ∃ wt, w1.alloc (.cells #[.int .u32 (T9 l).1, .int .u32 (T9 l).2.1, .int .i64 (T9 l).2.2.1, .slice A3 (T9 l).2.2.2.1.length c3, .slice A4 (T9 l).2.2.2.2.length c4] 44) = wt := ⟨_, rfl⟩
  obtain ⟨wp, hwp⟩ : ∃ wp, (wt.alloc (.cells #[.slice none 0 0] 22)).alloc (.cells #[.int .i64 0] 3) = wp := ⟨_, rfl⟩
  rw [hwt]
  rw [hwp]
  have BT := Aside0.mk (show Below w.heap.size w wt by rw [← hwt]; exact below_alloc' B1.out _)
  have XT := Aside0.mk (show wt.heap[w.heap.size]? = some (.cells #[.int .i64 q.kind, .int .u32 q.b0, .int .u32 q.b1, .int .u32 q.b2, .int .u32 q.b3, .int .u32 q.x, .int .u32 q.y, .int .u64 q.sq, .int .i64 q.k, .int .u64 q.after, .bool q.from_] 28 (0, 0)) by rw [← hwt]; exact boxc_alloc X1.out _)
  have MT := Aside0.mk (show wt.heap[w.heap.size + 1]? = some (.cells #[.int .i64 most] 3 (0, 0)) by rw [← hwt]; exact boxc_alloc M1.out _)
  have NT := Aside0.mk (show wt.heap[w1.heap.size]? = some (.cells #[.int .u32 (T9 l).1, .int .u32 (T9 l).2.1, .int .i64 (T9 l).2.2.1, .slice A3 (T9 l).2.2.2.1.length c3, .slice A4 (T9 l).2.2.2.2.length c4] 44 (0, 0)) by rw [← hwt]; exact boxc_new w1 _ _)
  have HTT := Aside0.mk (show TreeAt wt (T9 l) A3 c3 A4 c4 by rw [← hwt]; exact HT.out.below (below_alloc' (Below.refl _ w1) _))
  have hsz : wt.heap.size = w1.heap.size + 1 := by rw [← hwt]; simp
  have BP := Aside0.mk (show Below wt.heap.size wt wp by rw [← hwp]; exact below_alloc' (below_alloc' (Below.refl _ wt) _) _)
  have hszp : wp.heap.size = wt.heap.size + 2 := by rw [← hwp]; simp
  have OP := Aside0.mk (show wp.heap[wt.heap.size]? = some (.cells #[.slice none 0 0] 22 (0, 0)) by rw [← hwp]; exact boxc_alloc (boxc_new wt _ _) _)
  have CP := Aside0.mk (show wp.heap[wt.heap.size + 1]? = some (.cells #[.int .i64 0] 3 (0, 0)) by rw [← hwp]; have := boxc_new (wt.alloc (.cells #[.slice none 0 0] 22)) #[.int .i64 0] 3; rw [World.size_alloc] at this; exact this)
  have XP := Aside0.mk (boxc_below XT.out BP.out)
  have NP := Aside0.mk (boxc_below NT.out BP.out)
  clear hwt hwp B1 X1 M1 HT
  have x0 := boxc_cell XP.out 0
  have x1 := boxc_cell XP.out 1
  have x2 := boxc_cell XP.out 2
  have x3 := boxc_cell XP.out 3
  have x4 := boxc_cell XP.out 4
  have x5 := boxc_cell XP.out 5
  have x6 := boxc_cell XP.out 6
  have x7 := boxc_cell XP.out 7
  have x8 := boxc_cell XP.out 8
  have x9 := boxc_cell XP.out 9
  have x10 := boxc_cell XP.out 10
  have m0 := boxc_cell NP.out 0
  have m1 := boxc_cell NP.out 1
  have m2 := boxc_cell NP.out 2
  have m3 := boxc_cell NP.out 3
  have m4 := boxc_cell NP.out 4
  have HSZ := Aside0.mk hsz
  have HSP := Aside0.mk hszp
  clear hsz hszp
  gi_wp2_with (gi_at_call 11; refine (callsIn_wide.2 (pieces_calls q (T9 l) A3 c3 A4 c4 _)).mono ?_; rintro e w2 ⟨rfl, rfl⟩)
  rw [← HSZ.out, HSP.out]
  obtain ⟨V0, hV0⟩ : ∃ V0, (wp.alloc (.cells (nodeV (T9 l) A3 c3 A4 c4) 44)).alloc (.cells (encQ q) 28) = V0 := ⟨_, rfl⟩
  rw [hV0]
  have hzV : V0.heap.size = wt.heap.size + 4 := by rw [← hV0]; simp; have := HSP.out; omega
  have OV : V0.heap[wt.heap.size]? = some (.cells #[.slice none 0 0] 22 (0, 0)) := by rw [← hV0]; exact boxc_alloc (boxc_alloc OP.out _) _
  have CV : V0.heap[wt.heap.size + 1]? = some (.cells #[.int .i64 0] 3 (0, 0)) := by rw [← hV0]; exact boxc_alloc (boxc_alloc CP.out _) _
  have NV : V0.heap[wt.heap.size + 2]? = some (.cells #[.int .u32 (T9 l).1, .int .u32 (T9 l).2.1, .int .i64 (T9 l).2.2.1, .slice A3 (T9 l).2.2.2.1.length c3, .slice A4 (T9 l).2.2.2.2.length c4] 44 (0, 0)) := by rw [← hV0, ← HSP.out]; exact boxc_alloc (boxc_new wp _ _) _
  have QV : V0.heap[wt.heap.size + 2 + 1]? = some (.cells (encQ q) 28 (0, 0)) := by rw [← hV0, ← HSP.out]; have := boxc_new (wp.alloc (.cells (nodeV (T9 l) A3 c3 A4 c4) 44)) (encQ q) 28; rw [World.size_alloc] at this; exact this
  have BV : Below wt.heap.size wt V0 := by rw [← hV0]; exact below_alloc' (below_alloc' BP.out _) _
  have hseq := pieces_stops k l (good_of HWL.out hl HGD.out.1) HWL.out q wq HGD.out.2 (fun h => HBAD.out (.inl h)) F HF.out K HK.out A3 c3 A4 c4 wt HTT.out wt.heap.size (wt.heap.size + 1) (wt.heap.size + 2) (wt.heap.size + 2 + 1) V0 BV QV NV OV (by omega)
  have hK1 : 1 ≤ K := by
   have h1 := (check_iff.1 HGD.out.2).2.1
   rw [if_neg (fun h => HBAD.out (.inl h))] at h1
   have := HK.out
   omega
  have hmo : 0 ≤ most := Int.not_lt.1 (fun h => HBAD.out (.inr h))
  have hEI := AInv.own (most := most) (wt := wt) (V0 := V0) (Bq := wt.heap.size + 2 + 1) ⟨by omega, by omega, by omega, by omega⟩ (by omega)
  have HB := Aside0.mk BT.out
  clear hV0 OP CP XP NP BP NV QV x0 x1 x2 x3 x4 x5 x6 x7 x8 x9 x10 m0 m1 m2 m3 m4 XT
  refine wpIn_rangeFunc_N (w := V0) rfl (by decide) (gf := 16) (lb := #[.pointer (some ⟨wt.heap.size + 2, 0, none⟩), .pointer (some ⟨wt.heap.size + 2 + 1, 0, none⟩)]) rfl trivial (enters_of Tryz.func16 (by kernel_rfl) rfl) (SeqStopsN.room hseq)
   (fun r e => by subst e; omega) (fun h k => h.trans k) (fun V q o o' hq h hc _ => KeepO.put V q o o' (by omega) (by omega) h hc) (Below.refl _ _) (fun _ => rfl)
   (fun pre V => AInv most wt V0 pre V) (fun c pre V => c = .exit 0 ∧ ∃ pre' x, pre = pre' ++ [x] ∧ AInv most wt V0 pre' V ∧ (pre'.length : Int) = most)
   hEI (fun c s X Y row ⟨h1, pre', x, h2, h3, h4⟩ hg hr => ⟨h1, pre', x, h2, hEI pre' X Y row h3 hg hr, h4⟩)
   ⟨⟨.slice none 0 0, rfl, OV, own_nil _ _ _ _⟩, CV, BV, Nat.le_refl _, hmo, Nat.zero_le _⟩
   (fun (x : Pc) (a' : Act) (V : World) => a' = { tmps := #[.slice A l.length c, .agg #[.int .i64 q.kind, .int .u32 q.b0, .int .u32 q.b1, .int .u32 q.b2, .int .u32 q.b3, .int .u32 q.x, .int .u32 q.y, .int .u64 q.sq, .int .i64 q.k, .int .u64 q.after, .bool q.from_], .int .i64 most, undef, .pointer (some ⟨w.heap.size, 0, none⟩), .pointer (some ⟨w.heap.size + 1, 0, none⟩), .slice none 0 0, .int .i64 0, .pointer (some ⟨w1.heap.size, 0, none⟩), .int .i64 er1, .pointer (some ⟨wt.heap.size, 0, none⟩), .pointer (some ⟨wt.heap.size + 1, 0, none⟩), .slice x.A x.rows.length x.c, .pointer (some ⟨w.heap.size, 0, none⟩), .int .i64 q.kind, .bool false, .bool false, .int .i64 most, .bool false, .bool false, .tuple #[.agg (nodeV (T9 l) A3 c3 A4 c4), .int .i64 er1], .slice A l.length c, .agg #[.int .i64 q.kind, .int .u32 q.b0, .int .u32 q.b1, .int .u32 q.b2, .int .u32 q.b3, .int .u32 q.x, .int .u32 q.y, .int .u64 q.sq, .int .i64 q.k, .int .u64 q.after, .bool q.from_], .tuple #[.agg (nodeV (T9 l) A3 c3 A4 c4), .int .i64 er1], .agg (nodeV (T9 l) A3 c3 A4 c4), .int .i64 er1, .int .i64 er1, .bool false, undef, .agg #[.int .u32 (T9 l).1, .int .u32 (T9 l).2.1, .int .i64 (T9 l).2.2.1, .slice A3 (T9 l).2.2.2.1.length c3, .slice A4 (T9 l).2.2.2.2.length c4], .agg #[.int .i64 q.kind, .int .u32 q.b0, .int .u32 q.b1, .int .u32 q.b2, .int .u32 q.b3, .int .u32 q.x, .int .u32 q.y, .int .u64 q.sq, .int .i64 q.k, .int .u64 q.after, .bool q.from_], .func (.func 16) #[] #[.pointer (some ⟨wt.heap.size + 2, 0, none⟩), .pointer (some ⟨wt.heap.size + 2 + 1, 0, none⟩)], .slice x.A x.rows.length x.c, undef, undef, undef, undef, undef, undef, undef, undef, undef], defers := [] } ∧ PcAt V0.heap.size x V)
   (fun x a' s X Y row ⟨h1, h2⟩ hg hr => ⟨h1, h2.grown hg (fun r e => (hr r e).2)⟩) ?assign ?body ?done ?stop
  case assign =>
   rintro q' pre x V K' hI hE hK
   gi_wp2_with fail
   exact hK _ _ (keeps_below (Below.refl _ V)) (KeepO.of_below (by have := hI.z; omega) (by have := hI.z; omega) (Below.refl _ V)) hI ⟨rfl, hE⟩
  case body =>
   rintro q' pre x a' V hq ⟨rc, hrc⟩ hI ⟨rfl, hPA⟩ hlt
   obtain ⟨xA, xc, rows⟩ := x
   have c0 := boxc_cell hI.c 0
   have m0 : V.cell? ⟨w.heap.size + 1, 0, none⟩ = some (.int .i64 most) := (boxc_cell ((hI.b.block _ (boxc_lt MT.out)).trans MT.out) 0).trans rfl
   have HI := Aside0.mk hI
   have HPA := Aside0.mk hPA
   clear hrc hPA
   by_cases hem : (pre.length : Int) = most
   ·have he : ((pre.length : Int) == most) = true := beq_iff_eq.2 hem
    have HEM := Aside0.mk hem
    clear hem
    gi_wp2_with fail
    exact ⟨keeps_below (Below.refl _ V), rfl, pre, ⟨_, rfl⟩, HI.out, HEM.out⟩
   ·have he : ((pre.length : Int) == most) = false := beq_eq_false_iff_ne.2 hem
    have hw1 : wrap64 ((pre.length : Int) + 1) = (pre.length : Int) + 1 := by have h1 := hI.l; have h2 := hmost.2; exact wrap64_id (by omega) (by omega)
    have HEM := Aside0.mk hem
    obtain ⟨v, hv1, hv2, hv3⟩ := hI.o
    obtain ⟨Av, cv, rfl⟩ := own_slice hv3
    have fc := boxc_frozen hI.c 0
    have hv2c := boxc_far hv2 (a := ⟨wt.heap.size + 1, 0, none⟩) (by show wt.heap.size ≠ wt.heap.size + 1; omega) (.int .i64 ((pre.length : Int) + 1))
    have hown := own_setCell (p := ⟨wt.heap.size + 1, 0, none⟩) hv3 (own_ne hv3 hI.c (by decide)) (.int .i64 ((pre.length : Int) + 1))
    have o0 := boxc_cell hv2c 0
    have fo := boxc_frozen hv2c 0
    obtain ⟨i0, hi, hi0, hi1, hi2⟩ := info_parts info37
    have hbz := hI.z
    have hsl := hI.s
    have hll := hI.l
    have hct := boxc_set hI.c 0 (.int .i64 ((pre.length : Int) + 1))
    have hb1 : Below wt.heap.size wt (V.setCell ⟨wt.heap.size + 1, 0, none⟩ (.int .i64 ((pre.length : Int) + 1))) := hI.b.setCell (show wt.heap.size ≤ wt.heap.size + 1 by omega) _
    have hk1 := KeepO.set_c (n₁ := wt.heap.size) (Bo := wt.heap.size) (Bc := wt.heap.size + 1) V 0 (.int .i64 ((pre.length : Int) + 1)) (by omega) (by omega)
    have hf1 : KeepsFrom V0.heap.size V (V.setCell ⟨wt.heap.size + 1, 0, none⟩ (.int .i64 ((pre.length : Int) + 1))) := KeepsFrom.of_grown (grown_set V (wt.heap.size + 1) 0 _) (fun r e => by cases e; exact ⟨_, hI.c, rfl⟩)
    have hne := own_ne hown hv2c (by decide)
    have hnc := own_ne hown hct (by decide)
    have hrow := own_row hown
    obtain ⟨V1, hV1⟩ : ∃ V1, V.setCell ⟨wt.heap.size + 1, 0, none⟩ (.int .i64 ((pre.length : Int) + 1)) = V1 := ⟨_, rfl⟩
    have hz1 : V1.heap.size = V.heap.size := by rw [← hV1]; simp
    have hpc1 : rows ≠ [] → ∃ ad, xA = some ad ∧ ∀ (j : Nat) (u : Value), (rows.flatMap encR)[j]? = some u → V1.cell? (ad.add j) = some u := fun hx => by
     obtain ⟨ad, e, hcc⟩ := HPA.out.C hx
     refine ⟨ad, e, fun j u hj => ?_⟩
     have hbk : (ad.add j).block = ad.block := by unfold Addr.add; split <;> rfl
     have hge := HPA.out.blk ad e
     rw [← hV1]
     exact (World.cell?_of_block (Below.heap_setCell V ⟨wt.heap.size + 1, 0, none⟩ _ _ (by rw [hbk]; show ad.block ≠ wt.heap.size + 1; omega))).trans (hcc j u hj)
    simp only [hV1] at hv2c hown o0 fo hct hb1 hk1 hf1 hrow
    have HLE := Aside0.mk (Kd.R_reads' (R_flat hown)).2.1
    have HV2 := Aside0.mk hv2c
    have HCT := Aside0.mk hct
    have HB1 := Aside0.mk hb1
    have HK1 := Aside0.mk hk1
    have HF1 := Aside0.mk hf1
    have HRW := Aside0.mk hrow
    have HOW := Aside0.mk hown
    have HNB := Aside0.mk (show V0.heap.size ≤ V1.heap.size ∧ wt.heap.size + 2 ≤ V0.heap.size ∧ (pre.length : Int) + 1 ≤ most ∧ (flatP pre).length ≤ 64 * pre.length ∧ rows.length ≤ 64 ∧ pre.length < 61 from ⟨by omega, by omega, by have := HEM.out; omega, hsl, HPA.out.small, hlt⟩)
    by_cases hr0 : rows = []
    ·subst hr0
     clear hv2c hct hb1 hk1 hf1 hrow hown hbz hsl hll hI hem hlt hq
     gi_wp2_with (gi_at_builtin; refine wpListIn_append_nothing _ rfl (.tmp 38) (.tmp 39) 22 rfl 37 i0 Tryz.underlying22 hi Av (flatP pre).length cv HLE.out rfl xA xc rfl ?_)
     obtain ⟨e1, e2, e3⟩ := body_end (x := ⟨xA, xc, []⟩) HV2.out HCT.out HB1.out HNB.out.1 HNB.out.2.1 HRW.out (grown_of_below (Below.refl _ V1) _) (by show World.ownsRow _ _ _ _ _ (flatP pre ++ []).length ((flatP pre ++ []).flatMap encR); rw [List.append_nil]; exact HOW.out) (.inl rfl) rfl HNB.out.2.2.1 HNB.out.2.2.2.1 (Nat.zero_le _)
     exact ⟨by rw [← hzV]; exact HF1.out.trans e1, HK1.out.trans e2, trivial, e3⟩
    ·obtain ⟨ad, rfl, hnews⟩ := hpc1 hr0
     clear hv2c hct hb1 hk1 hf1 hrow hbz hsl hll hI hem hlt hq
     gi_wp2_with (gi_at_builtin; refine wpListIn_append_own_at _ rfl (.tmp 38) (.tmp 39) 22 rfl V0.heap.size 37 i0 _ 4 32 Tryz.underlying22 hi hi0 hi1 hi2 rfl (by omega) (.slice Av (flatP pre).length cv) (flatP pre).length _ rfl hown ad rows.length xc (rows.flatMap encR) rfl (encR_flat rows) hnews (flat_one rows) (by have := HNB.out; simp only [maxLen]; omega) (by have := HNB.out; omega) HNB.out.1 ?_; intro v5 w5 ho5 hg5 _ hv5; obtain ⟨A5, c5, rfl⟩ := own_slice ho5; have b5 := blk_grown HV2.out hg5 hne; have q5 := boxc_cell b5 0; have z5 := boxc_frozen b5 0; have HO5 := Aside0.mk ho5; have HG5 := Aside0.mk hg5; have HV5 := Aside0.mk hv5; clear ho5 hg5 b5 hv5)
     obtain ⟨e1, e2, e3⟩ := body_end (x := ⟨some ad, xc, rows⟩) HV2.out HCT.out HB1.out HNB.out.1 HNB.out.2.1 HRW.out HG5.out (by show World.ownsRow _ _ _ _ _ (flatP pre ++ rows).length ((flatP pre ++ rows).flatMap encR); rw [List.length_append, List.flatMap_append]; exact HO5.out) HV5.out rfl HNB.out.2.2.1 HNB.out.2.2.2.1 HNB.out.2.2.2.2.1
     exact ⟨by rw [← hzV]; exact HF1.out.trans e1, HK1.out.trans e2, trivial, e3⟩
  case done =>
   rintro D xs V hD ⟨hpc, hlF⟩ hI hK
   have hmle := hI.l
   have hml : xs.length ≤ most.toNat := by omega
   have hmul := Nat.mul_le_mul_left K hml
   have hfl := PcOk.flat hpc
   rw [List.length_map, ← flatP_eq] at hfl
   obtain ⟨v, hv1, hv2, hv3⟩ := hI.o
   have hzV1 := hI.z
   have o0 := boxc_cell hv2 0
   have hout : flatP xs = F.take (K * most.toNat) := by
    rw [hfl]
    rw [List.take_of_length_le hlF, List.take_of_length_le (Nat.le_trans hlF hmul)]
   have hrow := own_row hv3
   have HK' := Aside0.mk hK
   have HV3 := Aside0.mk hv3
   have HBI := Aside0.mk hI.b
   clear hK hv3 hI
   gi_wp2_with fail
   try rw [Exit.noGoto_ret]
   refine leaves_marks w.heap.size (fun W => W.ownsRow w.heap.size 37 4 v (flatP xs).length ((flatP xs).flatMap encR) ∧ RowKit.Below w.heap.size w W) ?_ ?_ [D] V ⟨by simp, fun D' h => by rw [List.mem_singleton.1 h]; exact ⟨by have := HB.out.size; omega, HK'.out⟩⟩ ⟨own_weaken HV3.out (by have := HB.out.size; omega), HB.out.trans (HBI.out.mono HB.out.size)⟩
   ·rintro X Y r ⟨h1, h2⟩ hg hr ⟨o, ho, hoc⟩
    refine ⟨h1.kept hg ?_, h2.grown hg h2.size (fun k e => by cases e; exact hr)⟩
    cases hvb : v.ownBlock with
    | none => exact .inl rfl
    | some b =>
     refine .inr (fun e => ?_)
     obtain ⟨_, cs, t, fr, hc, _⟩ := own_row h1 b hvb
     cases e
     rw [hc] at ho
     cases ho
     cases hoc
   ·rintro X ⟨h1, h2⟩
    exact ⟨.tuple #[v, .int .i64 0], by simp [results, Tryz.results5, go_sem], v, rfl, by rw [← hout]; exact R_flat h1, h2⟩
  case stop =>
   rintro D cc pre V hD hpc ⟨rfl, pre', x, rfl, hI, hm⟩ hK
   rw [List.map_append] at hpc
   have hmt : pre'.length = most.toNat := by omega
   have hfl := PcOk.flat hpc.left
   rw [List.length_map, ← flatP_eq] at hfl
   obtain ⟨v, hv1, hv2, hv3⟩ := hI.o
   have hzV1 := hI.z
   have o0 := boxc_cell hv2 0
   have hout : flatP pre' = F.take (K * most.toNat) := by
    rw [hfl]
    rw [hmt]
   have hrow := own_row hv3
   have HK' := Aside0.mk hK
   have HV3 := Aside0.mk hv3
   have HBI := Aside0.mk hI.b
   clear hK hv3 hI
   gi_wp2_with fail
   try rw [Exit.noGoto_ret]
   refine leaves_marks w.heap.size (fun W => W.ownsRow w.heap.size 37 4 v (flatP pre').length ((flatP pre').flatMap encR) ∧ RowKit.Below w.heap.size w W) ?_ ?_ [D] V ⟨by simp, fun D' h => by rw [List.mem_singleton.1 h]; exact ⟨by have := HB.out.size; omega, HK'.out⟩⟩ ⟨own_weaken HV3.out (by have := HB.out.size; omega), HB.out.trans (HBI.out.mono HB.out.size)⟩
   ·rintro X Y r ⟨h1, h2⟩ hg hr ⟨o, ho, hoc⟩
    refine ⟨h1.kept hg ?_, h2.grown hg h2.size (fun k e => by cases e; exact hr)⟩
    cases hvb : v.ownBlock with
    | none => exact .inl rfl
    | some b =>
     refine .inr (fun e => ?_)
     obtain ⟨_, cs, t, fr, hc, _⟩ := own_row h1 b hvb
     cases e
     rw [hc] at ho
     cases ho
     cases hoc
   ·rintro X ⟨h1, h2⟩
    exact ⟨.tuple #[v, .int .i64 0], by simp [results, Tryz.results5, go_sem], v, rfl, by rw [← hout]; exact R_flat h1, h2⟩
end Go.Proofs.YtoimgijhekahhaaGreat.P

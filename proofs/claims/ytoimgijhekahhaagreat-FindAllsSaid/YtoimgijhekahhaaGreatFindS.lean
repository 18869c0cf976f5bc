/- Layer 11, find: a tree that may be asked (find.tree), what a query gives (find.Ask): walked. -/
import Derived.Test.YtoimgijhekahhaaGreatFindF
import Derived.Test.YtoimgijhekahhaaGreatPx3
import Derived.Test.YtoimgijhekahhaaGreatPx902
namespace Go.Proofs.YtoimgijhekahhaaGreat.P
open Go.RowKit Go.Proofs.YtoimgijhekahhaaGreatOwn Go.Proofs.YtoimgijhekahhaaGreatW.PrintWords Go.Proofs.YtoimgijhekahhaaGreatW.PrintLast Go.Proofs.YtoimgijhekahhaaGreatW.PrintMore
set_option linter.unusedVariables false
set_option linter.unusedSimpArgs false
def errQ (q : Q11) (er : Int) : Int := if er = 0 then checkP q else er
structure TreeR (w : World) (base : Nat) (n : Nod) (A3 : Option Addr) (c3 : Nat) (A4 : Option Addr) (c4 : Nat) : Prop where
 R3 : Kd.R k37 37 w base (fun _ => True) (.slice A3 n.2.2.2.1.length c3) n.2.2.2.1
 R4 : Kd.R k44 44 w base (fun k_ => some k_ ≠ (Value.slice A3 n.2.2.2.1.length c3).ownBlock) (.slice A4 n.2.2.2.2.length c4) n.2.2.2.2
theorem TreeR.below {w w1 : World} {base : Nat} {n : Nod} {A3 : Option Addr} {c3 : Nat} {A4 : Option Addr} {c4 : Nat} (h : TreeR w base n A3 c3 A4 c4) (hb : Below w.heap.size w w1) : TreeR w1 base n A3 c3 A4 c4 := ⟨Kd.R_below h.R3 hb, Kd.R_below h.R4 hb⟩
theorem TreeR.setc {w : World} {base : Nat} {n : Nod} {A3 : Option Addr} {c3 : Nat} {A4 : Option Addr} {c4 : Nat} (h : TreeR w base n A3 c3 A4 c4) {g : Nat} (hg : g < base) (o : Nat) (u : Value) : TreeR (w.setCell ⟨g, o, none⟩ u) base n A3 c3 A4 c4 := ⟨R_setc h.R3 hg o u, R_setc h.R4 hg o u⟩
theorem TreeR.at_ {w : World} {base : Nat} {n : Nod} {A3 : Option Addr} {c3 : Nat} {A4 : Option Addr} {c4 : Nat} (h : TreeR w base n A3 c3 A4 c4) : TreeAt w n A3 c3 A4 c4 := ⟨(Kd.R_reads' h.R3).2.1, (Kd.R_reads' h.R3).2.2, (Kd.R_reads' h.R4).2.1, (Kd.R_reads' h.R4).2.2⟩
theorem build_callsT (k : Nat) (A0 : Option Addr) (c0 : Nat) (l0 : List S37) (n : Nod) (er : Int) (w : World) (hr0 : Kd.C k37 w A0 l0.length l0) (hc0 : l0.length ≤ c0) (h : quad_Build.f k l0 = some (n.1, n.2.1, n.2.2.1, n.2.2.2.1, n.2.2.2.2, er)) :
  Calls Tryz.prog 14 #[.slice A0 l0.length c0] w fun e w' => ∃ A3 c3 A4 c4, e = .returned (.tuple #[.agg (nodeV n A3 c3 A4 c4), .int .i64 er]) ∧ TreeR w' w.heap.size n A3 c3 A4 c4 ∧ Below w.heap.size w w' := by
 refine (quad_Build.calls k A0 c0 l0 n.1 n.2.1 n.2.2.1 n.2.2.2.1 n.2.2.2.2 er w hr0 hc0 h).mono ?_
 rintro e w' ⟨v3, v4, rfl, h3, h4, hb⟩
 obtain ⟨A3, c3, rfl⟩ := Kd.R_slice h3
 obtain ⟨A4, c4, rfl⟩ := Kd.R_slice h4
 exact ⟨A3, c3, A4, c4, rfl, ⟨h3, h4⟩, hb⟩
set_option maxRecDepth 100000 in
set_option maxHeartbeats 8000000 in
theorem treeF_calls (k : Nat) (q : Q11) (A : Option Addr) (c : Nat) (l : List S37) (n : Nod) (er : Int) (w : World) (hC : Kd.C k37 w A l.length l) (hc : l.length ≤ c) (h : quad_Build.f k l = some (n.1, n.2.1, n.2.2.1, n.2.2.2.1, n.2.2.2.2, er)) :
  Calls Tryz.prog 10 #[.slice A l.length c, .agg (encQ q)] w fun e w' => ∃ A3 c3 A4 c4, e = .returned (.tuple #[.agg (nodeV n A3 c3 A4 c4), .int .i64 (errQ q er)]) ∧ TreeAt w' n A3 c3 A4 c4 ∧ Below w.heap.size w w' := by
 have HC := Aside0.mk hC
 have HF := Aside0.mk h
 clear hC h
 have hu := Tryz.underlying44
 obtain ⟨w0, hw0⟩ : ∃ w0, (w.alloc (.cells #[.int .i64 q.kind, .int .u32 q.b0, .int .u32 q.b1, .int .u32 q.b2, .int .u32 q.b3, .int .u32 q.x, .int .u32 q.y, .int .u64 q.sq, .int .i64 q.k, .int .u64 q.after, .bool q.from_] 28)).alloc (.cells #[.int .u32 0, .int .u32 0, .int .i64 0, .slice none 0 0, .slice none 0 0] 44) = w0 := ⟨_, rfl⟩
 have hB0 := Aside0.mk (show Below w.heap.size w w0 by rw [← hw0]; exact below_alloc' (below_alloc' (Below.refl _ w) _) _)
 have hX0 := Aside0.mk (show w0.heap[w.heap.size]? = some (.cells #[.int .i64 q.kind, .int .u32 q.b0, .int .u32 q.b1, .int .u32 q.b2, .int .u32 q.b3, .int .u32 q.x, .int .u32 q.y, .int .u64 q.sq, .int .i64 q.k, .int .u64 q.after, .bool q.from_] 28 (0, 0)) by rw [← hw0]; exact boxc_alloc (boxc_new w _ _) _)
 have hZ0 := Aside0.mk (show w0.heap[w.heap.size + 1]? = some (.cells #[.int .u32 0, .int .u32 0, .int .i64 0, .slice none 0 0, .slice none 0 0] 44 (0, 0)) by rw [← hw0]; have := boxc_new (w.alloc (.cells #[.int .i64 q.kind, .int .u32 q.b0, .int .u32 q.b1, .int .u32 q.b2, .int .u32 q.b3, .int .u32 q.x, .int .u32 q.y, .int .u64 q.sq, .int .i64 q.k, .int .u64 q.after, .bool q.from_] 28)) #[.int .u32 0, .int .u32 0, .int .i64 0, .slice none 0 0, .slice none 0 0] 44; rw [World.size_alloc] at this; exact this)
 have hlt : w.heap.size + 1 < w0.heap.size := boxc_lt hZ0.out
 unfold encQ
 go_enter Tryz.func10, Tryz.ntmps10
 go_wp2_with fail
 refine (build_callsT k A c l n er _ (Kd.C_below HC.out hB0.out) hc HF.out).mono ?_
 rintro e w1 ⟨A3, c3, A4, c4, rfl, hT, hb1⟩
 have n1_ := Aside0.mk (below_call hB0.out hb1)
 have n2_ := Aside0.mk (boxc_below hX0.out hb1)
 have n3_ := Aside0.mk (boxc_below hZ0.out hb1)
 have HT := Aside0.mk hT
 clear hw0 hB0 hX0 hZ0 hb1 hT
 have hB := n1_
 have hX := n2_
 have hZ := n3_
 clear n1_ n2_ n3_
 have m0 := boxc_cell (boxc_alloc hX.out (.cells #[.int .u32 n.1, .int .u32 n.2.1, .int .i64 n.2.2.1, .slice A3 n.2.2.2.1.length c3, .slice A4 n.2.2.2.2.length c4] 44)) 0
 have m1 := boxc_cell (boxc_alloc hX.out (.cells #[.int .u32 n.1, .int .u32 n.2.1, .int .i64 n.2.2.1, .slice A3 n.2.2.2.1.length c3, .slice A4 n.2.2.2.2.length c4] 44)) 1
 have m2 := boxc_cell (boxc_alloc hX.out (.cells #[.int .u32 n.1, .int .u32 n.2.1, .int .i64 n.2.2.1, .slice A3 n.2.2.2.1.length c3, .slice A4 n.2.2.2.2.length c4] 44)) 2
 have m3 := boxc_cell (boxc_alloc hX.out (.cells #[.int .u32 n.1, .int .u32 n.2.1, .int .i64 n.2.2.1, .slice A3 n.2.2.2.1.length c3, .slice A4 n.2.2.2.2.length c4] 44)) 3
 have m4 := boxc_cell (boxc_alloc hX.out (.cells #[.int .u32 n.1, .int .u32 n.2.1, .int .i64 n.2.2.1, .slice A3 n.2.2.2.1.length c3, .slice A4 n.2.2.2.2.length c4] 44)) 4
 have m5 := boxc_cell (boxc_alloc hX.out (.cells #[.int .u32 n.1, .int .u32 n.2.1, .int .i64 n.2.2.1, .slice A3 n.2.2.2.1.length c3, .slice A4 n.2.2.2.2.length c4] 44)) 5
 have m6 := boxc_cell (boxc_alloc hX.out (.cells #[.int .u32 n.1, .int .u32 n.2.1, .int .i64 n.2.2.1, .slice A3 n.2.2.2.1.length c3, .slice A4 n.2.2.2.2.length c4] 44)) 6
 have m7 := boxc_cell (boxc_alloc hX.out (.cells #[.int .u32 n.1, .int .u32 n.2.1, .int .i64 n.2.2.1, .slice A3 n.2.2.2.1.length c3, .slice A4 n.2.2.2.2.length c4] 44)) 7
 have m8 := boxc_cell (boxc_alloc hX.out (.cells #[.int .u32 n.1, .int .u32 n.2.1, .int .i64 n.2.2.1, .slice A3 n.2.2.2.1.length c3, .slice A4 n.2.2.2.2.length c4] 44)) 8
 have m9 := boxc_cell (boxc_alloc hX.out (.cells #[.int .u32 n.1, .int .u32 n.2.1, .int .i64 n.2.2.1, .slice A3 n.2.2.2.1.length c3, .slice A4 n.2.2.2.2.length c4] 44)) 9
 have m10 := boxc_cell (boxc_alloc hX.out (.cells #[.int .u32 n.1, .int .u32 n.2.1, .int .i64 n.2.2.1, .slice A3 n.2.2.2.1.length c3, .slice A4 n.2.2.2.2.length c4] 44)) 10
 have hne2 : w.heap.size + 1 ≠ w1.heap.size := by have := boxc_lt hZ.out; omega
 have HLT := Aside0.mk hlt
 clear hlt
 by_cases he : er = 0
 ·have heb : (er == 0) = true := beq_iff_eq.2 he
  have HE := Aside0.mk (show errQ q er = checkP q from if_pos he)
  clear he
  go_wp2_with fail
  refine (check_calls q _).mono ?_
  rintro e w2 ⟨rfl, hb2⟩
  have n1_ := Aside0.mk (below_call (below_alloc' hB.out (.cells #[.int .u32 n.1, .int .u32 n.2.1, .int .i64 n.2.2.1, .slice A3 n.2.2.2.1.length c3, .slice A4 n.2.2.2.2.length c4] 44)) hb2)
  have n2_ := Aside0.mk (boxc_below (boxc_alloc hZ.out (.cells #[.int .u32 n.1, .int .u32 n.2.1, .int .i64 n.2.2.1, .slice A3 n.2.2.2.1.length c3, .slice A4 n.2.2.2.2.length c4] 44)) hb2)
  have n3_ := Aside0.mk (boxc_below (boxc_new w1 #[.int .u32 n.1, .int .u32 n.2.1, .int .i64 n.2.2.1, .slice A3 n.2.2.2.1.length c3, .slice A4 n.2.2.2.2.length c4] 44) hb2)
  have n4_ := Aside0.mk ((HT.out.below (below_alloc' (Below.refl _ w1) (.cells #[.int .u32 n.1, .int .u32 n.2.1, .int .i64 n.2.2.1, .slice A3 n.2.2.2.1.length c3, .slice A4 n.2.2.2.2.length c4] 44))).below hb2)
  clear hB hX hZ HT hb2 m0 m1 m2 m3 m4 m5 m6 m7 m8 m9 m10
  have hB := n1_
  have hZ := n2_
  have hN := n3_
  have HT := n4_
  clear n1_ n2_ n3_ n4_
  have n0 := boxc_cell hN.out 0
  have n1 := boxc_cell hN.out 1
  have n2 := boxc_cell hN.out 2
  have n3 := boxc_cell hN.out 3
  have n4 := boxc_cell hN.out 4
  have z0 := boxc_cell hZ.out 0
  have z1 := boxc_cell hZ.out 1
  have z2 := boxc_cell hZ.out 2
  have z3 := boxc_cell hZ.out 3
  have z4 := boxc_cell hZ.out 4
  have zf := fun i => boxc_frozen hZ.out i
  go_wp2_with fail
  have b5 := blk_set (blk_set (blk_set (blk_set (blk_set hZ.out 0 (.int .u32 n.1)) 1 (.int .u32 n.2.1)) 2 (.int .i64 n.2.2.1)) 3 (.slice A3 n.2.2.2.1.length c3)) 4 (.slice A4 n.2.2.2.2.length c4)
  refine bodyPost_ret (results_ct rfl _ _ (w.heap.size + 1) 44 #[.int .u32 n.1, .int .u32 n.2.1, .int .i64 n.2.2.1, .slice A3 n.2.2.2.1.length c3, .slice A4 n.2.2.2.2.length c4] (0, 0) _ rfl (by simpa using b5) hu rfl (by kernel_rfl)) rfl ?_
  have hset : ∀ {V : World} (o : Nat) (u : Value), Below w.heap.size w V → Below w.heap.size w (V.setCell ⟨w.heap.size + 1, o, none⟩ u) := fun o u h => h.setCell (by show w.heap.size ≤ w.heap.size + 1; omega) u
  have hT5 := ((((HT.out.setc HLT.out 0 (.int .u32 n.1)).setc HLT.out 1 (.int .u32 n.2.1)).setc HLT.out 2 (.int .i64 n.2.2.1)).setc HLT.out 3 (.slice A3 n.2.2.2.1.length c3)).setc HLT.out 4 (.slice A4 n.2.2.2.2.length c4)
  exact ⟨A3, c3, A4, c4, by rw [HE.out]; rfl, hT5.at_, hset _ _ (hset _ _ (hset _ _ (hset _ _ (hset _ _ hB.out))))⟩
 ·have heb : (er == 0) = false := beq_eq_false_iff_ne.2 he
  have HE := Aside0.mk (show errQ q er = er from if_neg he)
  have n1_ := Aside0.mk (below_alloc' hB.out (.cells #[.int .u32 n.1, .int .u32 n.2.1, .int .i64 n.2.2.1, .slice A3 n.2.2.2.1.length c3, .slice A4 n.2.2.2.2.length c4] 44))
  have n2_ := Aside0.mk (boxc_alloc hZ.out (.cells #[.int .u32 n.1, .int .u32 n.2.1, .int .i64 n.2.2.1, .slice A3 n.2.2.2.1.length c3, .slice A4 n.2.2.2.2.length c4] 44))
  have n3_ := Aside0.mk (boxc_new w1 #[.int .u32 n.1, .int .u32 n.2.1, .int .i64 n.2.2.1, .slice A3 n.2.2.2.1.length c3, .slice A4 n.2.2.2.2.length c4] 44)
  have n4_ := Aside0.mk (HT.out.below (below_alloc' (Below.refl _ w1) (.cells #[.int .u32 n.1, .int .u32 n.2.1, .int .i64 n.2.2.1, .slice A3 n.2.2.2.1.length c3, .slice A4 n.2.2.2.2.length c4] 44)))
  clear he hB hX hZ HT m0 m1 m2 m3 m4 m5 m6 m7 m8 m9 m10
  have hB := n1_
  have hZ := n2_
  have hN := n3_
  have HT := n4_
  clear n1_ n2_ n3_ n4_
  generalize hw2 : w1.alloc (.cells #[.int .u32 n.1, .int .u32 n.2.1, .int .i64 n.2.2.1, .slice A3 n.2.2.2.1.length c3, .slice A4 n.2.2.2.2.length c4] 44) = w2 at hB hZ hN HT
  have n0 := boxc_cell hN.out 0
  have n1 := boxc_cell hN.out 1
  have n2 := boxc_cell hN.out 2
  have n3 := boxc_cell hN.out 3
  have n4 := boxc_cell hN.out 4
  have z0 := boxc_cell hZ.out 0
  have z1 := boxc_cell hZ.out 1
  have z2 := boxc_cell hZ.out 2
  have z3 := boxc_cell hZ.out 3
  have z4 := boxc_cell hZ.out 4
  have zf := fun i => boxc_frozen hZ.out i
  go_wp2_with fail
  have b5 := blk_set (blk_set (blk_set (blk_set (blk_set hZ.out 0 (.int .u32 n.1)) 1 (.int .u32 n.2.1)) 2 (.int .i64 n.2.2.1)) 3 (.slice A3 n.2.2.2.1.length c3)) 4 (.slice A4 n.2.2.2.2.length c4)
  refine bodyPost_ret (results_ct rfl _ _ (w.heap.size + 1) 44 #[.int .u32 n.1, .int .u32 n.2.1, .int .i64 n.2.2.1, .slice A3 n.2.2.2.1.length c3, .slice A4 n.2.2.2.2.length c4] (0, 0) _ rfl (by simpa using b5) hu rfl (by kernel_rfl)) rfl ?_
  have hset : ∀ {V : World} (o : Nat) (u : Value), Below w.heap.size w V → Below w.heap.size w (V.setCell ⟨w.heap.size + 1, o, none⟩ u) := fun o u h => h.setCell (by show w.heap.size ≤ w.heap.size + 1; omega) u
  have hT5 := ((((HT.out.setc HLT.out 0 (.int .u32 n.1)).setc HLT.out 1 (.int .u32 n.2.1)).setc HLT.out 2 (.int .i64 n.2.2.1)).setc HLT.out 3 (.slice A3 n.2.2.2.1.length c3)).setc HLT.out 4 (.slice A4 n.2.2.2.2.length c4)
  exact ⟨A3, c3, A4, c4, by rw [HE.out]; rfl, hT5.at_, hset _ _ (hset _ _ (hset _ _ (hset _ _ (hset _ _ hB.out))))⟩
end Go.Proofs.YtoimgijhekahhaaGreat.P
namespace Go.Proofs.YtoimgijhekahhaaGreat.P
open Go.RowKit Go.Proofs.YtoimgijhekahhaaGreatOwn Go.Proofs.YtoimgijhekahhaaGreatW.PrintWords Go.Proofs.YtoimgijhekahhaaGreatW.PrintLast Go.Proofs.YtoimgijhekahhaaGreatW.PrintMore
set_option linter.unusedVariables false
set_option linter.unusedSimpArgs false
theorem check_ok {q : Q11} (h : checkP q = 0) : (1 ≤ q.kind ∧ q.kind ≤ 4) ∧ 0 ≤ q.k := by
 unfold checkP at h
 by_cases h1 : q.kind < 1 ∨ 4 < q.kind
 ·rw [if_pos h1] at h; omega
 ·rw [if_neg h1] at h
  refine ⟨by omega, ?_⟩
  by_cases h3 : q.kind = 3
  ·by_cases h2 : q.k < 0
   ·rw [if_pos (.inl (by rw [if_pos h3]; exact h2))] at h; omega
   ·omega
  ·by_cases h2 : q.k < 1
   ·rw [if_pos (.inl (by rw [if_neg h3]; exact h2))] at h; omega
   ·omega
theorem err_ok {q : Q11} {er : Int} (h : errQ q er = 0) : er = 0 ∧ checkP q = 0 := by
 unfold errQ at h
 by_cases he : er = 0
 ·rw [if_pos he] at h; exact ⟨he, h⟩
 ·rw [if_neg he] at h; exact absurd h he
def AskF (k : Nat) (l : List S37) (q : Q11) : Option (List S37 × Bool × Int) :=
 (quad_Build.f k l).bind fun b => if errQ q b.2.2.2.2.2 = 0 then (kindR k (b.1, b.2.1, b.2.2.1, b.2.2.2.1, b.2.2.2.2.1) q).map fun L => ((cutQ q L).1, (cutQ q L).2, 0) else some ([], false, errQ q b.2.2.2.2.2)
set_option maxRecDepth 100000 in
set_option maxHeartbeats 8000000 in
theorem Ask_calls (k : Nat) (q : Q11) (A : Option Addr) (c : Nat) (l : List S37) (out : List S37) (more : Bool) (er : Int) (w : World) (hC : Kd.C k37 w A l.length l) (hc : l.length ≤ c) (h : AskF k l q = some (out, more, er)) :
  Calls Tryz.prog 9 #[.slice A l.length c, .agg (encQ q)] w fun e w' => ∃ v, e = .returned (.tuple #[v, .bool more, .int .i64 er]) ∧ Kd.R k37 37 w' w.heap.size (fun _ => True) v out ∧ Below w.heap.size w w' := by
 unfold AskF at h
 obtain ⟨⟨x, y, lv, rs, ks, e0⟩, hb, h1⟩ := Option.bind_eq_some_iff.1 h
 obtain ⟨n, hn⟩ : ∃ n : Nod, n = (x, y, lv, rs, ks) := ⟨_, rfl⟩
 have HF : Aside0 (quad_Build.f k l = some (n.1, n.2.1, n.2.2.1, n.2.2.2.1, n.2.2.2.2, e0)) := ⟨by rw [hn]; exact hb⟩
 have H1 : Aside0 ((if errQ q e0 = 0 then (kindR k n q).map fun L => ((cutQ q L).1, (cutQ q L).2, (0 : Int)) else some ([], false, errQ q e0)) = some (out, more, er)) := ⟨by rw [hn]; exact h1⟩
 have HC := Aside0.mk hC
 clear h hb h1 hn hC
 obtain ⟨w0, hw0⟩ : ∃ w0, w.alloc (.cells #[.int .i64 q.kind, .int .u32 q.b0, .int .u32 q.b1, .int .u32 q.b2, .int .u32 q.b3, .int .u32 q.x, .int .u32 q.y, .int .u64 q.sq, .int .i64 q.k, .int .u64 q.after, .bool q.from_] 28) = w0 := ⟨_, rfl⟩
 have hB0 := Aside0.mk (show Below w.heap.size w w0 by rw [← hw0]; exact below_alloc' (Below.refl _ w) _)
 have hX0 := Aside0.mk (show w0.heap[w.heap.size]? = some (.cells #[.int .i64 q.kind, .int .u32 q.b0, .int .u32 q.b1, .int .u32 q.b2, .int .u32 q.b3, .int .u32 q.x, .int .u32 q.y, .int .u64 q.sq, .int .i64 q.k, .int .u64 q.after, .bool q.from_] 28 (0, 0)) by rw [← hw0]; exact boxc_new w _ _)
 have hu := Tryz.underlying44
 unfold encQ
 go_enter Tryz.func9, Tryz.ntmps9
 have x0 := boxc_cell hX0.out 0
 have x1 := boxc_cell hX0.out 1
 have x2 := boxc_cell hX0.out 2
 have x3 := boxc_cell hX0.out 3
 have x4 := boxc_cell hX0.out 4
 have x5 := boxc_cell hX0.out 5
 have x6 := boxc_cell hX0.out 6
 have x7 := boxc_cell hX0.out 7
 have x8 := boxc_cell hX0.out 8
 have x9 := boxc_cell hX0.out 9
 have x10 := boxc_cell hX0.out 10
 go_wp2_with fail
 refine (treeF_calls k q A c l n e0 _ (Kd.C_below HC.out hB0.out) hc HF.out).mono ?_
 rintro e w1 ⟨A3, c3, A4, c4, rfl, hT, hb1⟩
 have n1_ := Aside0.mk (below_call hB0.out hb1)
 have n2_ := Aside0.mk (boxc_below hX0.out hb1)
 have HT := Aside0.mk hT
 clear hw0 hB0 hX0 hb1 hT x0 x1 x2 x3 x4 x5 x6 x7 x8 x9 x10
 have hB := n1_
 have hX := n2_
 clear n1_ n2_
 generalize he : errQ q e0 = e1 at H1
 by_cases hz : e1 = 0
 ·have heb : (e1 != 0) = false := bne_eq_false_iff_eq.2 hz
  have h1 := H1.out
  rw [if_pos hz] at h1
  obtain ⟨L, hL, hr⟩ := Option.map_eq_some_iff.1 h1
  simp only [Prod.mk.injEq] at hr
  obtain ⟨rfl, rfl, rfl⟩ := hr
  have hq := check_ok (err_ok (he.trans hz)).2
  have HL := Aside0.mk hL
  have HQ := Aside0.mk hq
  clear h1 hL hq H1 he hz
  have m0 := boxc_cell (boxc_alloc hX.out (.cells #[.int .u32 n.1, .int .u32 n.2.1, .int .i64 n.2.2.1, .slice A3 n.2.2.2.1.length c3, .slice A4 n.2.2.2.2.length c4] 44)) 0
  have m1 := boxc_cell (boxc_alloc hX.out (.cells #[.int .u32 n.1, .int .u32 n.2.1, .int .i64 n.2.2.1, .slice A3 n.2.2.2.1.length c3, .slice A4 n.2.2.2.2.length c4] 44)) 1
  have m2 := boxc_cell (boxc_alloc hX.out (.cells #[.int .u32 n.1, .int .u32 n.2.1, .int .i64 n.2.2.1, .slice A3 n.2.2.2.1.length c3, .slice A4 n.2.2.2.2.length c4] 44)) 2
  have m3 := boxc_cell (boxc_alloc hX.out (.cells #[.int .u32 n.1, .int .u32 n.2.1, .int .i64 n.2.2.1, .slice A3 n.2.2.2.1.length c3, .slice A4 n.2.2.2.2.length c4] 44)) 3
  have m4 := boxc_cell (boxc_alloc hX.out (.cells #[.int .u32 n.1, .int .u32 n.2.1, .int .i64 n.2.2.1, .slice A3 n.2.2.2.1.length c3, .slice A4 n.2.2.2.2.length c4] 44)) 4
  have m5 := boxc_cell (boxc_alloc hX.out (.cells #[.int .u32 n.1, .int .u32 n.2.1, .int .i64 n.2.2.1, .slice A3 n.2.2.2.1.length c3, .slice A4 n.2.2.2.2.length c4] 44)) 5
  have m6 := boxc_cell (boxc_alloc hX.out (.cells #[.int .u32 n.1, .int .u32 n.2.1, .int .i64 n.2.2.1, .slice A3 n.2.2.2.1.length c3, .slice A4 n.2.2.2.2.length c4] 44)) 6
  have m7 := boxc_cell (boxc_alloc hX.out (.cells #[.int .u32 n.1, .int .u32 n.2.1, .int .i64 n.2.2.1, .slice A3 n.2.2.2.1.length c3, .slice A4 n.2.2.2.2.length c4] 44)) 7
  have m8 := boxc_cell (boxc_alloc hX.out (.cells #[.int .u32 n.1, .int .u32 n.2.1, .int .i64 n.2.2.1, .slice A3 n.2.2.2.1.length c3, .slice A4 n.2.2.2.2.length c4] 44)) 8
  have m9 := boxc_cell (boxc_alloc hX.out (.cells #[.int .u32 n.1, .int .u32 n.2.1, .int .i64 n.2.2.1, .slice A3 n.2.2.2.1.length c3, .slice A4 n.2.2.2.2.length c4] 44)) 9
  have m10 := boxc_cell (boxc_alloc hX.out (.cells #[.int .u32 n.1, .int .u32 n.2.1, .int .i64 n.2.2.1, .slice A3 n.2.2.2.1.length c3, .slice A4 n.2.2.2.2.length c4] 44)) 10
  go_wp2_with fail
  have hB2 := Aside0.mk (below_alloc' hB.out (.cells #[.int .u32 n.1, .int .u32 n.2.1, .int .i64 n.2.2.1, .slice A3 n.2.2.2.1.length c3, .slice A4 n.2.2.2.2.length c4] 44))
  refine (ask_calls k q n A3 c3 A4 c4 L _ (HT.out.below (below_alloc' (Below.refl _ w1) (.cells #[.int .u32 n.1, .int .u32 n.2.1, .int .i64 n.2.2.1, .slice A3 n.2.2.2.1.length c3, .slice A4 n.2.2.2.2.length c4] 44))) HQ.out.1 HQ.out.2 HL.out).mono ?_
  rintro e w2 ⟨v2, rfl, hR2, hb2⟩
  obtain ⟨A2, c2, rfl⟩ := Kd.R_slice hR2
  have HR := Aside0.mk (Kd.R_lower hR2 hB2.out.size)
  have hB3 := Aside0.mk (below_call hB2.out hb2)
  clear hR2 hb2 m0 m1 m2 m3 m4 m5 m6 m7 m8 m9 m10
  go_wp2
  go_ret3
  exact ⟨_, rfl, HR.out, hB3.out⟩
 ·have heb : (e1 != 0) = true := bne_iff_ne.2 hz
  have h1 := H1.out
  rw [if_neg hz] at h1
  simp only [Option.some.injEq, Prod.mk.injEq] at h1
  obtain ⟨rfl, rfl, rfl⟩ := h1
  clear H1 he hz
  go_wp2
  go_ret3
  exact ⟨_, rfl, Kd.R_nil _ _ _ _ _, below_alloc' hB.out _⟩
end Go.Proofs.YtoimgijhekahhaaGreat.P
namespace Go.Proofs.YtoimgijhekahhaaGreat.P
open Go.RowKit Go.Proofs.YtoimgijhekahhaaGreatOwn Go.Proofs.YtoimgijhekahhaaGreatW.PrintWords Go.Proofs.YtoimgijhekahhaaGreatW.PrintLast Go.Proofs.YtoimgijhekahhaaGreatW.PrintMore
set_option linter.unusedVariables false
set_option linter.unusedSimpArgs false
def rowI (i : Int) : S37 := ⟨i, 0, 0, ⟨#[]⟩⟩
def l3 : List S37 := [rowI 1, rowI 2, rowI 3]
def q1 : Q11 := ⟨4, 0, 0, 0, 0, 0, 0, 0, 2, 0, false⟩
def q2 : Q11 := ⟨4, 0, 0, 0, 0, 0, 0, 0, 2, 2, true⟩
abbrev cells3 : Array Value := #[.int .u64 1, .int .u32 0, .int .u32 0, .string ⟨#[]⟩, .int .u64 2, .int .u32 0, .int .u32 0, .string ⟨#[]⟩, .int .u64 3, .int .u32 0, .int .u32 0, .string ⟨#[]⟩]
theorem l3_C {W : World} {g : Nat} (h : W.heap[g]? = some (.cells cells3 37 (0, 0))) : Kd.C k37 W (some ⟨g, 0, none⟩) l3.length l3 := by
 refine ⟨rfl, by decide, fun _ => ⟨_, rfl, fun j p hj => ?_⟩⟩
 have hc : ∀ i, W.cell? ⟨g, i, none⟩ = cells3[i]? := fun i => boxc_cell h i
 have hjl : j < 3 := (List.getElem?_eq_some_iff.1 hj).1
 have : j = 0 ∨ j = 1 ∨ j = 2 := by omega
 rcases this with rfl | rfl | rfl <;> (cases hj; refine ⟨_, rfl, k37_mk W _, fun i u hu => ?_⟩; rw [add_plain, hc]; have hi := (List.getElem?_eq_some_iff.1 hu).1; have hi4 : i < 4 := hi; have : i = 0 ∨ i = 1 ∨ i = 2 ∨ i = 3 := (by omega); rcases this with rfl | rfl | rfl | rfl <;> exact hu)
theorem l3_Cd {W : World} {g : Nat} (h : W.heap[g]? = some (.cells cells3 37 (0, 0))) : Kd.C k37 W (some ⟨g, 8, none⟩) (l3.drop 2).length (l3.drop 2) := by
 have := Kd.C_drop (c := 3) (m := 2) (l3_C h) (by decide) (by decide)
 rw [if_neg (by decide)] at this
 exact this
set_option maxRecDepth 100000 in
set_option maxHeartbeats 8000000 in
theorem shown_calls (k : Nat) (h1 : AskF k l3 q1 = some (l3.take 2, true, 0)) (h2 : AskF k l3 q2 = some (l3.drop 2, false, 0)) (s1 : sphragisref09_Same.f k (l3.take 2) (l3.take 2) = some true) (s2 : sphragisref09_Same.f k (l3.drop 2) (l3.drop 2) = some true) (w : World) :
  Calls Tryz.prog 4 #[] w fun e w' => e = .returned (.bool true) ∧ Below w.heap.size w w' := by
 have H1 := Aside0.mk h1
 have H2 := Aside0.mk h2
 have S1 := Aside0.mk s1
 have S2 := Aside0.mk s2
 clear h1 h2 s1 s2
 obtain ⟨w0, hw0⟩ : ∃ w0, w.alloc (.cells cells3 37) = w0 := ⟨_, rfl⟩
 have hB := Aside0.mk (show Below w.heap.size w w0 by rw [← hw0]; exact below_alloc' (Below.refl _ w) _)
 have hX := Aside0.mk (show w0.heap[w.heap.size]? = some (.cells cells3 37 (0, 0)) by rw [← hw0]; exact boxc_new w _ _)
 go_enter Tryz.func4, Tryz.ntmps4
 go_wp2_with fail
 refine (Ask_calls k q1 (some ⟨w.heap.size, 0, none⟩) 3 l3 (l3.take 2) true 0 _ (l3_C hX.out) (by decide) H1.out).mono ?_
 rintro e w1 ⟨v1, rfl, hR1, hb1⟩
 obtain ⟨A1, c1, rfl⟩ := Kd.R_slice hR1
 have n1_ := Aside0.mk (below_call hB.out hb1)
 have n2_ := Aside0.mk (boxc_below hX.out hb1)
 have R1 := Aside0.mk (Kd.R_reads' hR1)
 clear hw0 hB hX hR1 hb1
 have hB := n1_
 have hX := n2_
 clear n1_ n2_
 go_wp2_with fail
 refine (Ask_calls k q2 (some ⟨w.heap.size, 0, none⟩) 3 l3 (l3.drop 2) false 0 _ (l3_C hX.out) (by decide) H2.out).mono ?_
 rintro e w2 ⟨v2, rfl, hR2, hb2⟩
 obtain ⟨A2, c2, rfl⟩ := Kd.R_slice hR2
 have n1_ := Aside0.mk (below_call hB.out hb2)
 have n2_ := Aside0.mk (boxc_below hX.out hb2)
 have n3_ := Aside0.mk (Kd.C_below R1.out.2.2 hb2)
 have R2 := Aside0.mk (Kd.R_reads' hR2)
 clear hB hX hR2 hb2
 have hB := n1_
 have hX := n2_
 have C1 := n3_
 clear n1_ n2_ n3_
 go_wp2_with fail
 refine (sphragisref09_Same.calls k A1 c1 (l3.take 2) (some ⟨w.heap.size, 0, none⟩) 3 (l3.take 2) true _ C1.out R1.out.2.1 (Kd.C_take (l3_C hX.out) (by decide)) (by decide) S1.out).mono ?_
 rintro e w3 ⟨rfl, hb3'⟩
 have hb3 := hb3'.below
 have n1_ := Aside0.mk (below_call hB.out hb3)
 have n2_ := Aside0.mk (boxc_below hX.out hb3)
 have n3_ := Aside0.mk (Kd.C_below R2.out.2.2 hb3)
 clear hB hX hb3 hb3'
 have hB := n1_
 have hX := n2_
 have C2 := n3_
 clear n1_ n2_ n3_
 go_wp2_with fail
 refine (sphragisref09_Same.calls k A2 c2 (l3.drop 2) (some ⟨w.heap.size, 8, none⟩) 1 (l3.drop 2) true _ C2.out R2.out.2.1 (l3_Cd hX.out) (by decide) S2.out).mono ?_
 rintro e w4 ⟨rfl, hb4'⟩
 have hb4 := hb4'.below
 have n1_ := Aside0.mk (below_call hB.out hb4)
 clear hB hb4 hb4'
 have hB := n1_
 clear n1_
 go_wp2_with fail
 go_ret
 exact ⟨rfl, hB.out⟩
end Go.Proofs.YtoimgijhekahhaaGreat.P

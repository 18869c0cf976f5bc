/- Layer 11, find: pieces, one behind the other (find.pieces): walked. -/
import Derived.Test.YtoimgijhekahhaaGreatPcP
import Derived.Test.YtoimgijhekahhaaGreatShP
import Derived.LoopNIn
import Derived.OwnWalkIn
import Derived.Test.YtoimgijhekahhaaGreatPx7
import Derived.Test.YtoimgijhekahhaaGreatPx8
namespace Go.Proofs.YtoimgijhekahhaaGreat.P
open Go.RowKit Go.Proofs.YtoimgijhekahhaaGreatOwn Go.Proofs.YtoimgijhekahhaaGreatW.PrintWords Go.Proofs.YtoimgijhekahhaaGreatW.PrintLast Go.Proofs.YtoimgijhekahhaaGreatW.PrintMore
set_option linter.unusedVariables false
set_option linter.unusedSimpArgs false
attribute [local go_sem] Oper.semAt_some
structure Pc where
 A : Option Addr
 c : Nat
 rows : List S37
abbrev pEncs (x : Pc) : Array Value := #[.slice x.A x.rows.length x.c]
structure PcAt (n₀ : Nat) (x : Pc) (W : World) : Prop where
 le : x.rows.length ≤ x.c
 C : x.rows ≠ [] → ∃ ad, x.A = some ad ∧ ∀ (j : Nat) (u : Value), (x.rows.flatMap encR)[j]? = some u → W.cell? (ad.add j) = some u
 small : x.rows.length ≤ 64
 blk : ∀ ad, x.A = some ad → n₀ ≤ ad.block
theorem flat_news {W : World} {ad : Addr} {rows : List Row} (h : Kd.C k37 W (some ad) rows.length rows) : ∀ (j : Nat) (u : Value), (rows.flatMap encR)[j]? = some u → W.cell? (ad.add j) = some u := by
 intro j u hj
 have hlen : (rows.flatMap encR).length = rows.length * 4 := encR_flat rows
 have hjl := (List.getElem?_eq_some_iff.1 hj).1
 rw [hlen] at hjl
 have hp : j / 4 < rows.length := by omega
 obtain ⟨ad', e, hc⟩ := h.2.2 (by omega)
 cases e
 obtain ⟨c, hcl, hK, hcell⟩ := hc (j / 4) rows[j / 4] (List.getElem?_eq_getElem hp)
 have hk : Kd.K k37 W rows[j / 4] c := hK
 obtain rfl := k37_open hk
 have hsz : k37.sz = 4 := rfl
 have hE : (encR rows[j / 4])[j % 4]? = some u := by
  rw [← encR_at rows (j / 4) rows[j / 4] (List.getElem?_eq_getElem hp), List.getElem?_take, if_pos (Nat.mod_lt _ (by decide)), List.getElem?_drop, show j / 4 * 4 + j % 4 = j by omega]
  exact hj
 have := hcell (j % 4) u hE
 rw [hsz, show j / 4 * 4 + j % 4 = j by omega] at this
 exact this
theorem flat_one (rows : List Row) : ∀ u ∈ rows.flatMap encR, u.oneCell' = true := by
 intro u hu
 obtain ⟨r, _, hr⟩ := List.mem_flatMap.1 hu
 simp [encR] at hr
 rcases hr with rfl | rfl | rfl | rfl <;> rfl
theorem PcAt.of {n₀ : Nat} {A : Option Addr} {c : Nat} {rows : List Row} {W : World} (hb : ∀ ad, A = some ad → n₀ ≤ ad.block) (h : Kd.C k37 W A rows.length rows) (hc : rows.length ≤ c) (hs : rows.length ≤ 64) : PcAt n₀ ⟨A, c, rows⟩ W :=
 ⟨hc, fun hne => by
  obtain ⟨ad, e, _⟩ := h.2.2 (List.length_pos_iff.2 hne)
  exact ⟨ad, e, flat_news (by rw [← e]; exact h)⟩, hs, hb⟩
theorem cell_grown {X Y : World} {row : Option Nat} {p : Addr} {v : Value} (h : X.cell? p = some v) (hg : X.grownBy Y row) (hr : ∀ r, row = some r → ∃ o : Obj, X.heap[r]? = some o ∧ o.isCells = false) : Y.cell? p = some v := by
 have hlt := World.block_lt_of_cell? X p h
 refine (World.cell?_of_block (hg.block p.block hlt (fun e => ?_))).trans h
 obtain ⟨o, ho, hc⟩ := hr _ e.symm
 cases o with
 | cells cs t fr => cases hc
 | _ => simp [World.cell?, ho] at h
theorem PcAt.grown {n₀ : Nat} {x : Pc} {X Y : World} {row : Option Nat} (h : PcAt n₀ x X) (hg : X.grownBy Y row) (hr : ∀ r, row = some r → ∃ o : Obj, X.heap[r]? = some o ∧ o.isCells = false) : PcAt n₀ x Y :=
 ⟨h.le, fun hne => by
  obtain ⟨ad, e, hc⟩ := h.C hne
  exact ⟨ad, e, fun j u hj => cell_grown (hc j u hj) hg hr⟩, h.small, h.blk⟩
def OutAt (Bo : Nat) (A : World) (q : Nat) : Prop := ∃ v t fr, A.heap[Bo]? = some (.cells #[v] t fr) ∧ v.ownBlock = some q
theorem OutAt.of_eq {Bo q : Nat} {A B : World} (e : B.heap[Bo]? = A.heap[Bo]?) (h : OutAt Bo B q) : OutAt Bo A q := by
 obtain ⟨v, t, fr, h1, h2⟩ := h
 exact ⟨v, t, fr, by rw [← e]; exact h1, h2⟩
structure KeepO (n₁ Bo Bc : Nat) (A B : World) : Prop where
 below : Below n₁ A B
 same : ∀ (q : Nat) (cs : Array Value) (t : TypeId) (fr : Nat × Nat), A.heap[q]? = some (.cells cs t fr) → q ≠ Bo → q ≠ Bc → ¬ OutAt Bo A q → B.heap[q]? = some (.cells cs t fr)
 out : ∀ q, OutAt Bo B q → A.heap.size ≤ q ∨ OutAt Bo A q
 lt : (∀ q, OutAt Bo A q → q < A.heap.size) → ∀ q, OutAt Bo B q → q < B.heap.size
theorem KeepO.trans {n₁ Bo Bc : Nat} {A B C : World} (h : KeepO n₁ Bo Bc A B) (k : KeepO n₁ Bo Bc B C) : KeepO n₁ Bo Bc A C where
 below := h.below.trans k.below
 same := fun q cs t fr h1 h2 h3 h4 => k.same q cs t fr (h.same q cs t fr h1 h2 h3 h4) h2 h3 (fun h5 => by
  rcases h.out q h5 with h6 | h6
  ·have := (Array.getElem?_eq_some_iff.1 h1).1; omega
  ·exact h4 h6)
 out := fun q hq => by
  rcases k.out q hq with h1 | h1
  ·exact .inl (Nat.le_trans h.below.size h1)
  ·exact h.out q h1
 lt := fun hA => k.lt (h.lt hA)
theorem KeepO.of_below {n₁ Bo Bc : Nat} {A B : World} (hn : n₁ ≤ A.heap.size) (hB : Bo < A.heap.size) (h : Below A.heap.size A B) : KeepO n₁ Bo Bc A B where
 below := h.mono hn
 same := fun q cs t fr h1 _ _ _ => boxc_below h1 h
 out := fun q hq => .inr (hq.of_eq (h.block Bo hB))
 lt := fun hA q hq => Nat.lt_of_lt_of_le (hA q (hq.of_eq (h.block Bo hB))) h.size
theorem KeepO.put {n₁ Bo Bc : Nat} (W : World) (l : Nat) (o o' : Obj) (hl : n₁ ≤ l) (hB : Bo < l) (h : W.heap[l]? = some o) (ho : o.isCells = false) : KeepO n₁ Bo Bc W (W.putObj l o') where
 below := (Below.refl n₁ W).grown (grownBy_putObj' W l o') (Nat.le_trans hl (Nat.le_of_lt (Array.getElem?_eq_some_iff.1 h).1)) (fun k e => by cases e; exact hl)
 same := fun q cs t fr h1 _ _ _ => (World.putObj_heap_other (fun e => by subst e; rw [h] at h1; cases h1; cases ho)).trans h1
 out := fun q hq => .inr (hq.of_eq (World.putObj_heap_other (by omega)))
 lt := fun hA q hq => Nat.lt_of_lt_of_le (hA q (hq.of_eq (World.putObj_heap_other (by omega)))) (grownBy_putObj' W l o').size
theorem KeepO.cell {n₁ Bo Bc : Nat} {A B : World} (h : KeepO n₁ Bo Bc A B) {p : Addr} {v : Value} (hc : A.cell? p = some v) (h2 : p.block ≠ Bo) (h3 : p.block ≠ Bc) (h4 : ¬ OutAt Bo A p.block) : B.cell? p = some v := by
 have hlt := World.block_lt_of_cell? A p hc
 obtain ⟨o, ho⟩ : ∃ o, A.heap[p.block]? = some o := ⟨_, Array.getElem?_eq_getElem hlt⟩
 cases o with
 | cells cs t fr =>
  have := h.same _ _ _ _ ho h2 h3 h4
  exact (World.cell?_of_block (this.trans ho.symm)).trans hc
 | _ => simp [World.cell?, ho] at hc
theorem KeepO.set_c {n₁ Bo Bc : Nat} (W : World) (o : Nat) (u : Value) (hn : n₁ ≤ Bc) (hne : Bo ≠ Bc) : KeepO n₁ Bo Bc W (W.setCell ⟨Bc, o, none⟩ u) where
 below := (Below.refl n₁ W).setCell hn _
 same := fun q cs t fr h1 _ h3 _ => boxc_far h1 h3 u
 out := fun q hq => .inr (hq.of_eq (Below.heap_setCell W ⟨Bc, o, none⟩ u Bo hne))
 lt := fun hA q hq => by simpa using hA q (hq.of_eq (Below.heap_setCell W ⟨Bc, o, none⟩ u Bo hne))
theorem KeepO.put_out {n₁ Bo Bc : Nat} {A B : World} {v v' : Value} {t : TypeId} {fr : Nat × Nat} (h : A.heap[Bo]? = some (.cells #[v] t fr)) (hg : A.grownBy B v.ownBlock) (hn : n₁ ≤ A.heap.size) (hb : ∀ r, v.ownBlock = some r → n₁ ≤ r) (hB : n₁ ≤ Bo) (hne : some Bo ≠ v.ownBlock)
  (hv : v'.ownBlock = v.ownBlock ∨ v'.ownBlock = some A.heap.size) (hlt : ∀ r, v'.ownBlock = some r → r < B.heap.size) : KeepO n₁ Bo Bc A (B.setCell ⟨Bo, 0, none⟩ v') where
 below := ((Below.refl n₁ A).grown hg hn hb).setCell hB _
 same := fun q cs t' fr' h1 h2 _ h4 => boxc_far (blk_grown h1 hg (fun e => h4 ⟨v, t, fr, h, e.symm⟩)) h2 v'
 out := fun q hq => by
  obtain ⟨u, t', fr', h1, h2⟩ := hq
  have h3 := boxc_set (blk_grown h hg hne) 0 v'
  rw [h3] at h1
  have : u = v' := by simp at h1; exact h1.1.symm
  subst this
  rcases hv with hv | hv
  ·exact .inr ⟨v, t, fr, h, hv ▸ h2⟩
  ·rw [hv] at h2; cases h2; exact .inl (Nat.le_refl _)
 lt := fun hA q hq => by
  obtain ⟨u, t', fr', h1, h2⟩ := hq
  have h3 := boxc_set (blk_grown h hg hne) 0 v'
  rw [h3] at h1
  have : u = v' := by simp at h1; exact h1.1.symm
  subst this
  simpa using hlt q h2
theorem roundsIn_of {F : Fence} {n : Nat} {P : Program} {c : Code} {Q : Exit → Act → World → Prop} (Inv : Nat → Act → World → Prop) (h0 : ∀ a w, ¬ Inv 0 a w) (step : ∀ m a w, Inv (m + 1) a w → c.wpIn F n P (Exit.then (fun a' w' => Inv m a' w') Q) a w) : ∀ (m : Nat) (a : Act) (w : World), Inv m a w → Code.roundsIn F n P c Q m a w
 | 0, a, w, h => (h0 a w h).elim
 | m + 1, a, w, h => by
  rw [roundsIn_succ]
  exact Code.wpIn_mono (fun e a w q => by cases e <;> first | exact q | exact roundsIn_of Inv h0 step m _ _ q) (step m a w h)
structure PInv (J : List Pc → World → Prop) (pre : List Pc) (wt W : World) (Bo Bc Bn Bq : Nat) (NODE : Array Value) (q : Q11) (wr : World) : Prop where
 j : J pre wr
 q : wr.heap[Bq]? = some (.cells (encQ q) 28 (0, 0))
 n : wr.heap[Bn]? = some (.cells NODE 44 (0, 0))
 b : Below wt.heap.size wt wr
 z : W.heap.size ≤ wr.heap.size
 o : ∀ q, OutAt Bo wr q → W.heap.size ≤ q ∧ q < wr.heap.size
theorem PInv.below {J : List Pc → World → Prop} {pre : List Pc} {wt W : World} {Bo Bc Bn Bq : Nat} {NODE : Array Value} {q : Q11} {A B : World} (h : PInv J pre wt W Bo Bc Bn Bq NODE q A) (hJ : OwnE (fun r => r = Bq) W.heap.size J) (hBo : Bo < W.heap.size) (hb : Below A.heap.size A B) : PInv J pre wt W Bo Bc Bn Bq NODE q B :=
 ⟨hJ _ A B none h.j (grown_of_below hb none) (by simp), boxc_below h.q hb, boxc_below h.n hb, below_call h.b hb, Nat.le_trans h.z hb.size, fun r hr => by
  have := h.o r (hr.of_eq (hb.block Bo (Nat.lt_of_lt_of_le hBo h.z)))
  exact ⟨this.1, Nat.lt_of_lt_of_le this.2 hb.size⟩⟩
theorem PInv.round {J : List Pc → World → Prop} {pre pre' : List Pc} {wt W : World} {Bo Bc Bn Bq : Nat} {NODE : Array Value} {q : Q11} {A B : World} (h : PInv J pre wt W Bo Bc Bn Bq NODE q A) (hj : J pre' B) (hk : KeepO wt.heap.size Bo Bc A B) (hq : Bq < W.heap.size ∧ Bq ≠ Bo ∧ Bq ≠ Bc) (hn : Bn < W.heap.size ∧ Bn ≠ Bo ∧ Bn ≠ Bc) : PInv J pre' wt W Bo Bc Bn Bq NODE q B :=
 ⟨hj, hk.same _ _ _ _ h.q hq.2.1 hq.2.2 (fun e => by have := (h.o _ e).1; omega), hk.same _ _ _ _ h.n hn.2.1 hn.2.2 (fun e => by have := (h.o _ e).1; omega), h.b.trans hk.below, Nat.le_trans h.z hk.below.size, fun r hr => by
  refine ⟨?_, hk.lt (fun q hq => (h.o q hq).2) r hr⟩
  rcases hk.out r hr with h1 | h1
  ·exact Nat.le_trans h.z h1
  ·exact (h.o r h1).1⟩
theorem grown_set (W : World) (g o : Nat) (u : Value) : W.grownBy (W.setCell ⟨g, o, none⟩ u) (some g) := ⟨rfl, rfl, rfl, by simp, fun k _ hk => Below.heap_setCell W ⟨g, o, none⟩ u k (fun e => hk (by rw [e]))⟩
theorem PInv.next {J : List Pc → World → Prop} {pre : List Pc} {wt W : World} {Bo Bc Bn Bq : Nat} {NODE : Array Value} {q : Q11} {A : World} (h : PInv J pre wt W Bo Bc Bn Bq NODE q A) (hJ : OwnE (fun r => r = Bq) W.heap.size J) (hne : Bq ≠ Bo ∧ Bq ≠ Bn) (hBq : wt.heap.size ≤ Bq) (o : Nat) (u : Value) (q' : Q11) (hq : (encQ q).setIfInBounds o u = encQ q') : PInv J pre wt W Bo Bc Bn Bq NODE q' (A.setCell ⟨Bq, o, none⟩ u) :=
 ⟨hJ _ A _ (some Bq) h.j (grown_set A Bq o u) (fun r e => by cases e; exact .inl rfl), by rw [← hq]; exact boxc_set h.q o u, boxc_far h.n (fun e => hne.2 e.symm) u, h.b.setCell hBq _, by simpa using h.z, fun r hr => by
  have := h.o r (hr.of_eq (Below.heap_setCell A ⟨Bq, o, none⟩ u Bo (fun e => hne.1 e.symm)))
  simpa using this⟩
set_option maxHeartbeats 1000000 in
theorem pieces_calls (q : Q11) (n : Nod) (A3 : Option Addr) (c3 : Nat) (A4 : Option Addr) (c4 : Nat) (w : World) :
  Calls Tryz.prog 11 #[.agg (nodeV n A3 c3 A4 c4), .agg (encQ q)] w fun e w' =>
   e = .returned (.func (.func 16) #[] #[.pointer (some ⟨w.heap.size, 0, none⟩), .pointer (some ⟨w.heap.size + 1, 0, none⟩)]) ∧ (w.alloc (.cells (nodeV n A3 c3 A4 c4) 44)).alloc (.cells (encQ q) 28) = w' := by
 have hu := Tryz.underlying44
 unfold encQ nodeV
 go_enter Tryz.func11, Tryz.ntmps11
 go_wp2_with fail
 go_ret
 exact ⟨rfl, rfl⟩
end Go.Proofs.YtoimgijhekahhaaGreat.P

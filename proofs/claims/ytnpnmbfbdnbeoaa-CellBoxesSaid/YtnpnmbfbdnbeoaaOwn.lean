/- Small lemmas of this session, used by the walks that are written by hand. -/
import Derived.Below
import Derived.WalkKit
import Derived.RangeFuncNested
import Derived.WalkMore
namespace Go.Proofs.YtnpnmbfbdnbeoaaOwn
open Go.RowKit

theorem bcell {W w1 : World} (hb : Below W.heap.size W w1) : (∀ b o, b < W.heap.size → w1.cell? ⟨b, o, none⟩ = W.cell? ⟨b, o, none⟩) ∧ (∀ b o, b < W.heap.size → w1.frozen? ⟨b, o, none⟩ = W.frozen? ⟨b, o, none⟩) :=
  ⟨fun b o h => hb.cell (p := ⟨b, o, none⟩) h, fun b o h => hb.frozen (p := ⟨b, o, none⟩) h⟩

theorem below_call {w W w1 : World} (h : Below w.heap.size w W) (hb : Below W.heap.size W w1) : Below w.heap.size w w1 := h.trans (hb.mono h.size)
theorem below_alloc' {w W : World} (h : Below w.heap.size w W) (o : Obj) : Below w.heap.size w (W.alloc o) := h.alloc h.size o

theorem wpIn_scope_wide {n : Nat} {P : Program} {c : Code} {Q : Exit → Act → World → Prop} {a : Act} {w : World} (h : c.wpIn Fence.wide n P (Exit.noGoto Q) a w) : (Code.scope c).wpIn Fence.wide n P Q a w :=
  (wpIn_wide (n := n)).2 (wp_scope_straight ((wpIn_wide (n := n)).1 h))

/-- A block of cells lies as it lay over the law's own book-keeping. -/
theorem boxc_keep {X Y : World} {row : Option Nat} {B K : Nat} {cs : Array Value} {t : TypeId} {fr : Nat × Nat} (h : X.heap[B]? = some (.cells cs t fr)) (hg : X.grownBy Y row)
    (hr : ∀ r, row = some r → K ≤ r ∧ ∃ o : Obj, X.heap[r]? = some o ∧ o.isCells = false) : Y.heap[B]? = some (.cells cs t fr) :=
  (hg.block B (Array.getElem?_eq_some_iff.1 h).1 (fun e => by obtain ⟨_, o, ho, hc⟩ := hr B e.symm; rw [h] at ho; cases ho; cases hc)).trans h
theorem below_keep {w X Y : World} {row : Option Nat} {K : Nat} (h : Below w.heap.size w X) (hg : X.grownBy Y row)
    (hr : ∀ r, row = some r → K ≤ r ∧ ∃ o : Obj, X.heap[r]? = some o ∧ o.isCells = false) (hK : w.heap.size ≤ K) : Below w.heap.size w Y :=
  h.grown hg h.size (fun k e => Nat.le_trans hK (hr k e).1)
theorem size_keep {X Y : World} {row : Option Nat} {n : Nat} (h : n ≤ X.heap.size) (hg : X.grownBy Y row) : n ≤ Y.heap.size := Nat.le_trans h hg.size
theorem boxc_new (W : World) (cs : Array Value) (t : TypeId) : (W.alloc (.cells cs t)).heap[W.heap.size]? = some (.cells cs t (0, 0)) := World.alloc_heap_new W _
theorem boxc_lt {W : World} {B : Nat} {o : Obj} (h : W.heap[B]? = some o) : B < W.heap.size := (Array.getElem?_eq_some_iff.1 h).1
theorem boxc_below {W W1 : World} {B : Nat} {o : Obj} (h : W.heap[B]? = some o) (hb : Below W.heap.size W W1) : W1.heap[B]? = some o := (hb.block B (boxc_lt h)).trans h
theorem boxc_alloc {W : World} {B : Nat} {o : Obj} (h : W.heap[B]? = some o) (o' : Obj) : (W.alloc o').heap[B]? = some o := (Below.heap_alloc W o' B (boxc_lt h)).trans h
theorem boxc_cell {W : World} {B : Nat} {cs : Array Value} {t : TypeId} {fr : Nat × Nat} (h : W.heap[B]? = some (.cells cs t fr)) (i : Nat) : W.cell? ⟨B, i, none⟩ = cs[i]? := by simp [World.cell?, h]
theorem boxc_frozen {W : World} {B : Nat} {cs : Array Value} {t : TypeId} (h : W.heap[B]? = some (.cells cs t (0, 0))) (i : Nat) : W.frozen? ⟨B, i, none⟩ = false := by simp [World.frozen?, h]
theorem boxc_far {W : World} {B : Nat} {o : Obj} (h : W.heap[B]? = some o) {a : Addr} (hne : B ≠ a.block) (u : Value) : (W.setCell a u).heap[B]? = some o := (Below.heap_setCell W a u B hne).trans h
theorem keeps_below {B : Nat} {W W' : World} (h : Below W.heap.size W W') : KeepsFrom B W W' :=
  KeepsFrom.of_grownBy (row := none) ⟨h.os, h.tape, h.output, h.size, fun i hi _ => h.block i hi⟩ (by simp)

end Go.Proofs.YtnpnmbfbdnbeoaaOwn

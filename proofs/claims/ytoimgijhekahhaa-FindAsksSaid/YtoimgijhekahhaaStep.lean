/- The steps of a drawn region, said short: what a step's checks are is found by the tactics that stand in the lemmas' defaults. -/
import Derived.Test.YtoimgijhekahhaaWWords
namespace Go.Proofs.Ytoimgijhekahhaa.P
set_option linter.unusedVariables false
open Go.RowKit Go.Proofs.YtoimgijhekahhaaW.PrintWords Go.Proofs.YtoimgijhekahhaaW.PrintLast Go.Proofs.YtoimgijhekahhaaW.PrintMore
section
variable {P : Program} {md : Region.Mode} {ops : Array Oper} {Q : Exit → Act → World → Prop} {S : World → Prop} {ds : List Nat} {T : Bool × List (List Nat × List Nat)} {B : List Nat}
/-- A pure operation that is wanted. -/
theorem pA {fuel : Nat} {l : Array Bool} {a : Act} {w : World} (i : Nat) (hT : Aside0 (rtab md ops = T)) {oi : Oper} {N : Option Tmp} {v : Value} {l' : Array Bool} {a' : Act} (h : wpAnyLast P md ops Q S ds fuel l' a' w)
  (hi : ops[i]? = some oi := by simp only [List.getElem?_toArray, List.getElem?_cons_zero, List.getElem?_cons_succ]; rfl) (hN : oi.dst = N := by dsimp only)
  (hl : l.setIfInBounds i true = l' := by simp only [List.setIfInBounds_toArray, List.set_cons_zero, List.set_cons_succ]; rfl)
  (hc : anyT T l.toList l'.toList i = true := by kernel_rfl)
  (hQ : ∀ c a w, Q (.panic c) (a.put oi.dst v) w → Q (.panic c) a w := by exact fun _ _ _ h => h)
  (hw : Region.wanted oi (yielded ops a.tmps) = true := by rfl)
  (hv : ∀ w', (execOp a.eval oi).run P w' = .ok (.value v) w' := by intro w'; go_simp; with_reducible rfl)
  (ha : a.put N v = a' := by simp only [Act.put, List.setIfInBounds_toArray, List.set_cons_zero, List.set_cons_succ, i64_w, i32_w]; rfl) : wpAnyLast P md ops Q S ds (fuel + 1) l a w :=
 pure_ l' hi hN (any_of hT.out hc) hQ (Or.inl ⟨hw, hv⟩) ha h
/-- A pure operation that is not wanted. -/
theorem uA {fuel : Nat} {l : Array Bool} {a : Act} {w : World} (i : Nat) (hT : Aside0 (rtab md ops = T)) {oi : Oper} {N : Option Tmp} {l' : Array Bool} {a' : Act} (h : wpAnyLast P md ops Q S ds fuel l' a' w)
  (hi : ops[i]? = some oi := by simp only [List.getElem?_toArray, List.getElem?_cons_zero, List.getElem?_cons_succ]; rfl) (hN : oi.dst = N := by dsimp only)
  (hl : l.setIfInBounds i true = l' := by simp only [List.setIfInBounds_toArray, List.set_cons_zero, List.set_cons_succ]; rfl)
  (hc : anyT T l.toList l'.toList i = true := by kernel_rfl)
  (hQ : ∀ c a w, Q (.panic c) (a.put oi.dst undef) w → Q (.panic c) a w := by exact fun _ _ _ h => h)
  (hw : Region.wanted oi (yielded ops a.tmps) = false := by rfl)
  (ha : a.put N undef = a' := by simp only [Act.put, List.setIfInBounds_toArray, List.set_cons_zero, List.set_cons_succ, i64_w, i32_w]; rfl) : wpAnyLast P md ops Q S ds (fuel + 1) l a w :=
 pure_ l' hi hN (any_of hT.out hc) hQ (Or.inr ⟨hw, rfl⟩) ha h
/-- An operation that reads what S says. -/
theorem tA {fuel : Nat} {l : Array Bool} {a : Act} {w : World} (i : Nat) (hT : Aside0 (rtab md ops = T)) (hB : Aside0 (waitsOk T.2 B = true)) {oi : Oper} {N : Option Tmp} {v : Value} {l' : Array Bool} {a' : Act} (h : wpAnyLast P md ops Q S ds fuel l' a' w)
  (hi : ops[i]? = some oi := by simp only [List.getElem?_toArray, List.getElem?_cons_zero, List.getElem?_cons_succ]; rfl) (hN : oi.dst = N := by dsimp only)
  (hl : l.setIfInBounds i true = l' := by simp only [List.setIfInBounds_toArray, List.set_cons_zero, List.set_cons_succ]; rfl)
  (hc : takeW T B ds l.toList l'.toList i = true := by kernel_rfl)
  (hQ : ∀ c a w, Q (.panic c) (a.put oi.dst v) w → Q (.panic c) a w := by exact fun _ _ _ h => h)
  (hw : Region.wanted oi (yielded ops a.tmps) = true := by rfl)
  (hv : ∀ w', S w' → (execOp a.eval oi).run P w' = .ok (.value v) w' := by intro w' hS; (repeat obtain ⟨s, hS⟩ := hS); go_simp; with_reducible rfl)
  (ha : a.put N v = a' := by simp only [Act.put, List.setIfInBounds_toArray, List.set_cons_zero, List.set_cons_succ, i64_w, i32_w]; rfl)
  (hS : S w := by assumption) : wpAnyLast P md ops Q S ds (fuel + 1) l a w :=
 take_ l' hi hN (take_ofW hT.out hB.out hc) hQ (Or.inl ⟨hw, hv⟩) hS ha h
end
end Go.Proofs.Ytoimgijhekahhaa.P

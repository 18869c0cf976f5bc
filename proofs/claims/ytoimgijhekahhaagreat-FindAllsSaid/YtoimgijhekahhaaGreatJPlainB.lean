/- What Square says, of the reference. Plain.; Layer 9, plain: the reference's nearest rows.; Layer 9, plain: the reference's rows near enough.; What In and RightBox say, of the reference. Plain.; Layer 9, plain: rows in a box, of the rows (the reference). -/
import Derived.Test.YtoimgijhekahhaaGreatJPlain
import Derived.Test.YtoimgijhekahhaaGreatPx13
import Derived.Test.YtoimgijhekahhaaGreatPx14
import Derived.Test.YtoimgijhekahhaaGreatPx16
import Derived.Test.YtoimgijhekahhaaGreatPx1102
import Derived.Test.YtoimgijhekahhaaGreatPx15
import Derived.Test.YtoimgijhekahhaaGreatPx1501
namespace Go.Proofs.YtoimgijhekahhaaGreat.P
set_option linter.unusedVariables false
set_option linter.unusedSimpArgs false
open Go.RowKit Go.Proofs.YtoimgijhekahhaaGreatOwn Go.Proofs.YtoimgijhekahhaaGreatW.PrintWords Go.Proofs.YtoimgijhekahhaaGreatW.PrintLast Go.Proofs.YtoimgijhekahhaaGreatW.PrintMore
theorem ref_Square.eq {x y u v : Int} (hx : 0 ≤ x) (hx1 : x < 4294967296) (hy : 0 ≤ y) (hy1 : y < 4294967296) (hu : 0 ≤ u) (hu1 : u < 4294967296) (hv : 0 ≤ v) (hv1 : v < 4294967296)
  (hb : sqZ x y u v < 18446744073709551616) : sphragisref08_Square.f x y u v = some (sqZ x y u v) := by
 unfold sphragisref08_Square.f
 have e1 : ∀ a b : Int, 0 ≤ a → a < 4294967296 → 0 ≤ b → b < 4294967296 → ((mx a b - mn a b) % 4294967296) * ((mx a b - mn a b) % 4294967296) = (a - b) * (a - b) := by
  intro a b h0 h1 h2 h3
  unfold mx mn
  by_cases h : a < b
  ·rw [if_pos h, if_neg (by omega), Int.emod_eq_of_lt (by omega) (by omega)]
   rw [show b - a = -(a - b) by omega, Int.neg_mul_neg]
  ·rw [if_neg h]
   by_cases h' : b < a
   ·rw [if_pos h', Int.emod_eq_of_lt (by omega) (by omega)]
   ·have : a = b := by omega
    subst this
    simp
 rw [e1 x u hx hx1 hu hu1, e1 y v hy hy1 hv hv1]
 have p1 : 0 ≤ (x - u) * (x - u) := by
  rcases Int.le_total u x with h | h
  ·exact Int.mul_nonneg (by omega) (by omega)
  ·rw [show x - u = -(u - x) by omega, Int.neg_mul_neg]; exact Int.mul_nonneg (by omega) (by omega)
 have p2 : 0 ≤ (y - v) * (y - v) := by
  rcases Int.le_total v y with h | h
  ·exact Int.mul_nonneg (by omega) (by omega)
  ·rw [show y - v = -(v - y) by omega, Int.neg_mul_neg]; exact Int.mul_nonneg (by omega) (by omega)
 have hb' : (x - u) * (x - u) + (y - v) * (y - v) < 18446744073709551616 := hb
 rw [wrap_u64 _ p1 (by omega), wrap_u64 _ p2 (by omega), wrap_u64 _ (by omega) (by omega)]
 rfl
end Go.Proofs.YtoimgijhekahhaaGreat.P
set_option linter.unusedVariables false
set_option linter.unusedSimpArgs false
namespace Go.Proofs.YtoimgijhekahhaaGreat.P
open Go.RowKit Go.Proofs.YtoimgijhekahhaaGreatOwn Go.Proofs.YtoimgijhekahhaaGreatW.PrintWords Go.Proofs.YtoimgijhekahhaaGreatW.PrintLast Go.Proofs.YtoimgijhekahhaaGreatW.PrintMore
theorem tookAt (took : List Bool) (i : Nat) (h : i < took.length) : rdOf false took (i : Int) = took[i] := by unfold rdOf; simp [List.getD, h]
def BestTo (D : Row → Int) (l : List Row) (took : List Bool) (i : Nat) (b : Int) : Prop :=
 (b = -1 ∧ ∀ j : Nat, j < i → took[j]? = some true) ∨ ∃ m : Nat, ∃ x : Row, b = (m : Int) ∧ m < i ∧ l[m]? = some x ∧ took[m]? = some false ∧ ∀ (j : Nat) (y : Row), j < i → took[j]? = some false → l[j]? = some y → D x < D y ∨ (D x = D y ∧ m ≤ j)
theorem ref_near_l1 {D : Row → Int} {l : List Row} {a1 a2 a3 : Int} (hD : ∀ r ∈ l, sphragisref08_Square.f a1 a2 r.f1 r.f2 = some (D r)) (hl : l.length ≤ 1000) {acc : List Row} {took : List Bool} (ht : took.length = l.length) (hacc : acc.length ≤ 1000) (hex : ∃ j : Nat, took[j]? = some false) :
  ∀ (m i k : Nat) (b : Int), i + m = l.length → BestTo D l took i b →
  ∃ (q : Nat) (x : Row), BestTo D l took l.length (q : Int) ∧ l[q]? = some x ∧ sphragisref09_Near.l1 (k + m + 2) l a1 a2 a3 acc took b (i : Int) = sphragisref09_Near.l0 (k + 1) l a1 a2 a3 (acc ++ [x]) (took.set q true)
 | 0, i, k, b, hi, hB => by
  obtain rfl : i = l.length := by omega
  rcases id hB with ⟨_, h⟩ | ⟨q, x, rfl, hq, hx, hf, hmin⟩
  ·obtain ⟨j, hj⟩ := hex
   have hjl := (List.getElem?_eq_some_iff.1 hj).1
   have := h j (by omega)
   rw [hj] at this
   cases this
  ·refine ⟨q, x, hB, hx, ?_⟩
   have hxq : rd_T37 l (q : Int) = x := by rw [rd_at l q hq]; exact (List.getElem?_eq_some_iff.1 hx).2
   rw [show k + 0 + 2 = (k + 1) + 1 from rfl, sphragisref09_Near.l1, if_neg (by omega), if_pos (by omega), if_pos (by omega), if_pos (by omega), if_pos (by omega), hxq, Int.toNat_natCast]
 | m + 1, i, k, b, hi, hB => by
  have hil : i < l.length := by omega
  have hw : wrap64 ((i : Int) + 1) = ((i + 1 : Nat) : Int) := by rw [wrap64_id (by omega) (by omega)]; omega
  have hti : took[i]? = some took[i] := List.getElem?_eq_getElem (by omega)
  have hli : l[i]? = some l[i] := List.getElem?_eq_getElem hil
  rw [show k + (m + 1) + 2 = (k + m + 2) + 1 by omega, sphragisref09_Near.l1, if_pos (by omega), if_pos (by omega), if_pos (by omega), tookAt took i (by omega), hw]
  cases hc : took[i] with
  | true =>
   rw [if_pos rfl]
   refine ref_near_l1 hD hl ht hacc hex m (i + 1) k b (by omega) ?_
   rcases hB with ⟨hb, h⟩ | ⟨q, x, hb, hq, hx, hf, hmin⟩
   ·refine .inl ⟨hb, fun j hj => ?_⟩
    by_cases e : j = i
    ·subst e; rw [hti, hc]
    ·exact h j (by omega)
   ·refine .inr ⟨q, x, hb, by omega, hx, hf, fun j y hj hfj hy => ?_⟩
    by_cases e : j = i
    ·subst e; rw [hti, hc] at hfj; cases hfj
    ·exact hmin j y (by omega) hfj hy
  | false =>
   rw [if_neg (by simp)]
   rcases hB with ⟨rfl, h⟩ | ⟨q, x, rfl, hq, hx, hf, hmin⟩
   ·rw [if_pos (by omega)]
    refine ref_near_l1 hD hl ht hacc hex m (i + 1) k (i : Int) (by omega) (.inr ⟨i, l[i], rfl, by omega, hli, by rw [hti, hc], fun j y hj hfj hy => ?_⟩)
    by_cases e : j = i
    ·subst e; rw [hli] at hy; cases hy; exact .inr ⟨rfl, Nat.le_refl _⟩
    ·have := h j (by omega); rw [this] at hfj; cases hfj
   ·obtain ⟨hql, hxe⟩ := List.getElem?_eq_some_iff.1 hx
    have hxm : x ∈ l := by rw [← hxe]; exact List.getElem_mem hql
    have hxq : rd_T37 l (q : Int) = x := by rw [rd_at l q hql]; exact hxe
    rw [if_neg (by omega), rd_at l i hil, hD _ (List.getElem_mem hil), Option.bind_some, if_pos (by omega), if_pos (by omega), hxq, hD x hxm, Option.bind_some]
    by_cases hlt : D l[i] < D x
    ·rw [if_pos hlt]
     refine ref_near_l1 hD hl ht hacc hex m (i + 1) k (i : Int) (by omega) (.inr ⟨i, l[i], rfl, by omega, hli, by rw [hti, hc], fun j y hj hfj hy => ?_⟩)
     by_cases e : j = i
     ·subst e; rw [hli] at hy; cases hy; exact .inr ⟨rfl, Nat.le_refl _⟩
     ·have := hmin j y (by omega) hfj hy; omega
    ·rw [if_neg hlt]
     refine ref_near_l1 hD hl ht hacc hex m (i + 1) k (q : Int) (by omega) (.inr ⟨q, x, rfl, by omega, hx, hf, fun j y hj hfj hy => ?_⟩)
     by_cases e : j = i
     ·subst e; rw [hli] at hy; cases hy; omega
     ·exact hmin j y (by omega) hfj hy
structure PickInv (a1 a2 : Int) (l acc : List Row) (took : List Bool) : Prop where
 len : took.length = l.length
 fst : acc = (sortD a1 a2 l).take acc.length
 tk : ∀ (i : Nat) (x : Row), l[i]? = some x → (took[i]? = some true ↔ x ∈ acc)
theorem asc_mono {l : List Row} (h : ascS l) {i j : Nat} {x y : Row} (hx : l[i]? = some x) (hy : l[j]? = some y) (hij : i ≤ j) : x.f0 ≤ y.f0 := by
 obtain ⟨h1, rfl⟩ := List.getElem?_eq_some_iff.1 hx
 obtain ⟨h2, rfl⟩ := List.getElem?_eq_some_iff.1 hy
 rcases Nat.lt_or_eq_of_le hij with e | e
 ·exact Int.le_of_lt (List.pairwise_iff_getElem.1 h i j h1 h2 e)
 ·subst e; exact Int.le_refl _
theorem PickInv.next {a1 a2 : Int} {l acc : List Row} {took : List Bool} (ha : ascS l) (h : PickInv a1 a2 l acc took) (hlt : acc.length < l.length) : ∃ s ∈ l, s ∉ acc := by
 have hSl := (sortD_perm a1 a2 l).length_eq
 have hlt' : acc.length < (sortD a1 a2 l).length := by omega
 have hnd : (sortD a1 a2 l).Nodup := by
  have : ((sortD a1 a2 l).map (·.f0)).Nodup := (((sortD_perm a1 a2 l).map (·.f0)).nodup_iff).2 (nodup_ids ha)
  exact List.Pairwise.imp (fun h e => h (by rw [e])) (List.pairwise_map.1 this)
 have hsplit : sortD a1 a2 l = acc ++ (sortD a1 a2 l)[acc.length] :: (sortD a1 a2 l).drop (acc.length + 1) := by
  conv => lhs; rw [← List.take_append_drop acc.length (sortD a1 a2 l), ← h.fst, List.drop_eq_getElem_cons hlt']
 refine ⟨(sortD a1 a2 l)[acc.length], (sortD_perm a1 a2 l).mem_iff.1 (List.getElem_mem hlt'), fun e => ?_⟩
 generalize (sortD a1 a2 l)[acc.length] = s at hsplit e
 rw [hsplit] at hnd
 exact (List.pairwise_append.1 hnd).2.2 s e s List.mem_cons_self rfl
theorem PickInv.step {a1 a2 : Int} {l acc : List Row} {took : List Bool} {q : Nat} {x : Row} (ha : ascS l) (h : PickInv a1 a2 l acc took) (hB : BestTo (fun r => sqZ a1 a2 r.f1 r.f2) l took l.length (q : Int)) (hx : l[q]? = some x) (hlt : acc.length < l.length) : PickInv a1 a2 l (acc ++ [x]) (took.set q true) := by
 have hSl := (sortD_perm a1 a2 l).length_eq
 have hml := fun r => (sortD_perm a1 a2 l).mem_iff (a := r)
 have hS : (sortD a1 a2 l)[acc.length]? = some (sortD a1 a2 l)[acc.length] := List.getElem?_eq_getElem (by omega)
 generalize hs : (sortD a1 a2 l)[acc.length] = s at hS
 have hnd : (sortD a1 a2 l).Nodup := by
  have : ((sortD a1 a2 l).map (·.f0)).Nodup := (((sortD_perm a1 a2 l).map (·.f0)).nodup_iff).2 (nodup_ids ha)
  exact List.Pairwise.imp (fun h e => h (by rw [e])) (List.pairwise_map.1 this)
 have hsplit : sortD a1 a2 l = acc ++ s :: (sortD a1 a2 l).drop (acc.length + 1) := by
  conv => lhs; rw [← List.take_append_drop acc.length (sortD a1 a2 l), ← h.fst, List.drop_eq_getElem_cons (by omega : acc.length < (sortD a1 a2 l).length), hs]
 obtain ⟨m, x', hm, hmq, hx', hf, hmin⟩ : ∃ (m : Nat) (x' : Row), (q : Int) = (m : Int) ∧ m < l.length ∧ l[m]? = some x' ∧ took[m]? = some false ∧ ∀ (j : Nat) (y : Row), j < l.length → took[j]? = some false → l[j]? = some y → sqZ a1 a2 x'.f1 x'.f2 < sqZ a1 a2 y.f1 y.f2 ∨ (sqZ a1 a2 x'.f1 x'.f2 = sqZ a1 a2 y.f1 y.f2 ∧ m ≤ j) := by
  rcases hB with ⟨e, _⟩ | ⟨m, x', h1, h2, h3, h4, h5⟩
  ·omega
  ·exact ⟨m, x', h1, h2, h3, h4, h5⟩
 obtain rfl : q = m := by omega
 rw [hx] at hx'
 cases hx'
 have hxn : x ∉ acc := fun e => by have := (h.tk q x hx).2 e; rw [hf] at this; cases this
 have hxl : x ∈ l := List.mem_of_getElem? hx
 have hsl : s ∈ l := (hml s).1 (List.mem_of_getElem? hS)
 have hsn : s ∉ acc := by
  intro e
  rw [hsplit] at hnd
  exact (List.pairwise_append.1 hnd).2.2 s e s List.mem_cons_self rfl
 have hxs : x = s := by
  obtain ⟨i, hi⟩ := List.getElem?_of_mem hsl
  have hil := (List.getElem?_eq_some_iff.1 hi).1
  have hfi : took[i]? = some false := by
   have e1 : took[i]? = some (took[i]'(by rw [h.len]; exact hil)) := List.getElem?_eq_getElem _
   cases hb : took[i]'(by rw [h.len]; exact hil) with
   | false => rw [e1, hb]
   | true => exact absurd ((h.tk i s hi).1 (by rw [e1, hb])) hsn
  have h1 := hmin i s hil hfi hi
  have hxS : x ∈ s :: (sortD a1 a2 l).drop (acc.length + 1) := by
   have : x ∈ sortD a1 a2 l := (hml x).2 hxl
   rw [hsplit] at this
   exact (List.mem_append.1 this).resolve_left hxn
  rcases List.mem_cons.1 hxS with e | e
  ·exact e
  ·have hle := sortD_le a1 a2 l
   rw [hsplit] at hle
   have h2 := (List.pairwise_cons.1 (List.pairwise_append.1 hle).2.1).1 x e
   unfold keyD at h2
   simp only [decide_eq_true_eq] at h2
   refine asc_inj ha hxl hsl ?_
   have h3 : q ≤ i → x.f0 ≤ s.f0 := fun h3 => asc_mono ha hx hi h3
   generalize sqZ a1 a2 x.f1 x.f2 = dx at h1 h2
   generalize sqZ a1 a2 s.f1 s.f2 = ds at h1 h2
   clear hmin hsplit hle hB
   rcases h1 with h1 | ⟨h1, h4⟩
   ·omega
   ·have := h3 h4
    omega
 subst hxs
 refine ⟨by rw [List.length_set]; exact h.len, ?_, fun i y hy => ?_⟩
 ·rw [List.length_append, List.length_singleton, List.take_add_one, ← h.fst, hS]
  rfl
 ·by_cases e : i = q
  ·subst e
   rw [hx] at hy
   cases hy
   rw [List.getElem?_set_self (by rw [h.len]; exact hmq)]
   simp
  ·rw [List.getElem?_set_ne (Ne.symm e), h.tk i y hy, List.mem_append, List.mem_singleton]
   constructor
   ·exact .inl
   ·rintro (h1 | h1)
    ·exact h1
    ·subst h1
     exfalso
     have hle1 : y.f0 = y.f0 := rfl
     obtain ⟨p1, p2⟩ := List.getElem?_eq_some_iff.1 hx
     obtain ⟨p3, p4⟩ := List.getElem?_eq_some_iff.1 hy
     rcases Nat.lt_or_gt_of_ne e with k1 | k1
     ·have := List.pairwise_iff_getElem.1 ha i q p3 p1 k1
      rw [p2, p4] at this
      omega
     ·have := List.pairwise_iff_getElem.1 ha q i p1 p3 k1
      rw [p2, p4] at this
      omega
theorem ref_near_l0 {l : List Row} (hp : ∀ r ∈ l, ptR r) (ha : ascS l) (hl : l.length ≤ 1000) {a1 a2 a3 : Int} (h1 : 0 ≤ a1) (h2 : 0 ≤ a2) (g1 : a1 < 2147483648) (g2 : a2 < 2147483648) (h3 : 0 ≤ a3) :
  ∀ (m k : Nat) (acc : List Row) (took : List Bool), acc.length + m = l.length → acc.length ≤ a3.toNat → PickInv a1 a2 l acc took → (m + 1) * (l.length + 5) ≤ k → sphragisref09_Near.l0 k l a1 a2 a3 acc took = some ((sortD a1 a2 l).take a3.toNat, 0)
 | m, k, acc, took, hm, ha3, hI, hk => by
  have hSl := (sortD_perm a1 a2 l).length_eq
  have hk0 : l.length + 5 ≤ k := Nat.le_trans (by rw [Nat.succ_mul]; omega) hk
  obtain ⟨k, rfl⟩ : ∃ k', k = k' + 2 := ⟨k - 2, by omega⟩
  by_cases hend : (acc.length : Int) < a3
  ·by_cases hend2 : acc.length < l.length
   ·obtain ⟨m, rfl⟩ : ∃ m', m = m' + 1 := ⟨m - 1, by omega⟩
    rw [show k + 2 = (k + 1) + 1 from rfl, sphragisref09_Near.l0, if_pos hend, sphragisref09_Near.j2, if_pos (decide_eq_true (by omega))]
    obtain ⟨k, rfl⟩ : ∃ k', k = k' + l.length + 2 := ⟨k - l.length - 2, by omega⟩
    have hex : ∃ j : Nat, took[j]? = some false := by
     apply Classical.byContradiction
     intro hno
     have hall : ∀ x ∈ l, x ∈ acc := by
      intro x hx
      obtain ⟨i, hi⟩ := List.getElem?_of_mem hx
      have hil := (List.getElem?_eq_some_iff.1 hi).1
      refine (hI.tk i x hi).1 ?_
      have e1 : took[i]? = some (took[i]'(by rw [hI.len]; exact hil)) := List.getElem?_eq_getElem _
      cases hb : took[i]'(by rw [hI.len]; exact hil) with
      | true => rw [e1, hb]
      | false => exact absurd ⟨i, by rw [e1, hb]⟩ hno
     obtain ⟨s, hs1, hs2⟩ := hI.next ha hend2
     exact hs2 (hall s hs1)
    obtain ⟨q, x, hB, hx, he⟩ := ref_near_l1 (D := fun r => sqZ a1 a2 r.f1 r.f2) (a3 := a3) (fun r hr => by obtain ⟨b1, b2, b3, b4⟩ := hp r hr; exact ref_Square.eq h1 (by omega) h2 (by omega) b1 (by omega) b3 (by omega) (sqZ_lt' h1 h2 g1 g2 b1 b2 b3 b4)) hl (acc := acc) hI.len (by omega) hex l.length 0 k (-1) (by omega) (.inl ⟨rfl, fun j hj => by omega⟩)
    rw [show ((0 : Nat) : Int) = 0 from rfl] at he
    rw [he]
    have e2 : (m + 1 + 1) * (l.length + 5) = (m + 1) * (l.length + 5) + (l.length + 5) := Nat.succ_mul _ _
    exact ref_near_l0 hp ha hl h1 h2 g1 g2 h3 m (k + 1) (acc ++ [x]) (took.set q true) (by simp; omega) (by simp; omega) (hI.step ha hB hx hend2) (by omega)
   ·rw [show k + 2 = (k + 1) + 1 from rfl, sphragisref09_Near.l0, if_pos hend, sphragisref09_Near.j2, if_neg (by simp; omega)]
    congr 2
    rw [hI.fst, List.take_of_length_le (by omega), List.take_of_length_le (by omega)]
  ·rw [show k + 2 = (k + 1) + 1 from rfl, sphragisref09_Near.l0, if_neg hend, sphragisref09_Near.j2, if_neg (by simp)]
   have : acc.length = a3.toNat := by omega
   rw [← this, ← hI.fst]
theorem ref_near_eq {l : List Row} (hp : ∀ r ∈ l, ptR r) (ha : ascS l) (hl : l.length ≤ 60) {a1 a2 a3 : Int} (h1 : 0 ≤ a1) (h2 : 0 ≤ a2) {k : Nat} (hk : 4096 ≤ k) : sphragisref09_Near.f k l a1 a2 a3 = some (nearP l a1 a2 a3) := by
 obtain ⟨k, rfl⟩ : ∃ k', k = k' + 1 := ⟨k - 1, by omega⟩
 unfold sphragisref09_Near.f nearP
 by_cases c1 : a1 ≥ 2147483648
 ·rw [if_pos c1, if_pos (.inl c1), sphragisref09_Near.j0, if_pos rfl]
 ·rw [if_neg c1]
  by_cases c2 : a2 ≥ 2147483648
  ·rw [if_pos c2, if_pos (.inr (.inl c2)), sphragisref09_Near.j0, if_pos rfl]
  ·rw [if_neg c2]
   by_cases c3 : a3 < 0
   ·rw [if_pos (.inr (.inr c3)), decide_eq_true c3, sphragisref09_Near.j0, if_pos rfl]
   ·rw [if_neg (by omega), decide_eq_false c3, sphragisref09_Near.j0, if_neg (by simp), if_pos (by omega), if_pos (by omega), Int.toNat_natCast]
    refine ref_near_l0 hp ha (by omega) h1 h2 (by omega) (by omega) (by omega) l.length k [] _ (by simp) (by simp) ⟨by simp, by simp, fun i x hx => ?_⟩ ?_
    ·have hil := (List.getElem?_eq_some_iff.1 hx).1
     rw [List.getElem?_replicate]
     simp [hil]
    ·have : (l.length + 1) * (l.length + 5) ≤ 61 * 65 := Nat.mul_le_mul (by omega) (by omega)
     omega
end Go.Proofs.YtoimgijhekahhaaGreat.P
set_option linter.unusedVariables false
set_option linter.unusedSimpArgs false
namespace Go.Proofs.YtoimgijhekahhaaGreat.P
open Go.RowKit Go.Proofs.YtoimgijhekahhaaGreatOwn Go.Proofs.YtoimgijhekahhaaGreatW.PrintWords Go.Proofs.YtoimgijhekahhaaGreatW.PrintLast Go.Proofs.YtoimgijhekahhaaGreatW.PrintMore
theorem ref_round_l0 {l : List Row} (hp : ∀ r ∈ l, ptR r) (hl : l.length ≤ 1000) {a1 a2 a3 : Int} (h1 : 0 ≤ a1) (h2 : 0 ≤ a2) (g1 : a1 < 2147483648) (g2 : a2 < 2147483648) : ∀ (m j k : Nat) (acc : List Row), j + m = l.length → acc.length ≤ j → m < k →
  sphragisref09_Round.l0 k l a1 a2 a3 acc (j : Int) = some (acc ++ (l.drop j).filter (nearB a1 a2 a3), 0)
 | m, j, 0, _, _, _, h => by omega
 | 0, j, k + 1, acc, hj, _, _ => by
  rw [sphragisref09_Round.l0, if_neg (by omega), List.drop_eq_nil_of_le (by omega)]
  simp
 | m + 1, j, k + 1, acc, hj, hacc, hk => by
  have hjl : j < l.length := by omega
  obtain ⟨b1, b2, b3, b4⟩ := hp l[j] (List.getElem_mem hjl)
  have hw : wrap64 ((j : Int) + 1) = ((j + 1 : Nat) : Int) := by rw [wrap64_id (by omega) (by omega)]; omega
  rw [sphragisref09_Round.l0, if_pos (by omega), if_pos (by omega), rd_at l j hjl, ref_Square.eq h1 (by omega) h2 (by omega) b1 (by omega) b3 (by omega) (sqZ_lt' h1 h2 g1 g2 b1 b2 b3 b4), Option.bind_some, hw, List.drop_eq_getElem_cons hjl]
  by_cases hh : sqZ a1 a2 l[j].f1 l[j].f2 ≤ a3
  ·rw [if_pos hh, if_pos (by omega)]
   have := ref_round_l0 hp hl (a3 := a3) h1 h2 g1 g2 m (j + 1) k (acc ++ [l[j]]) (by omega) (by simp; omega) (by omega)
   show sphragisref09_Round.l0 k l a1 a2 a3 (acc ++ [l[j]]) ((j + 1 : Nat) : Int) = _
   rw [this]
   have hn : nearB a1 a2 a3 l[j] = true := decide_eq_true hh
   simp only [List.filter_cons, hn, if_true, List.append_assoc, List.singleton_append]
  ·rw [if_neg hh]
   have := ref_round_l0 hp hl (a3 := a3) h1 h2 g1 g2 m (j + 1) k acc (by omega) (by omega) (by omega)
   rw [this]
   have hn : nearB a1 a2 a3 l[j] = false := decide_eq_false hh
   simp only [List.filter_cons, hn, if_false, Bool.false_eq_true]
theorem ref_round_eq {l : List Row} (hp : ∀ r ∈ l, ptR r) (hl : l.length ≤ 1000) {a1 a2 a3 : Int} (h1 : 0 ≤ a1) (h2 : 0 ≤ a2) (g1 : a1 ≤ 4294967295) (g2 : a2 ≤ 4294967295) {k : Nat} (hk : l.length + 2 ≤ k) : sphragisref09_Round.f k l a1 a2 a3 = some (roundP l a1 a2 a3) := by
 obtain ⟨k, rfl⟩ : ∃ k', k = k' + 1 := ⟨k - 1, by omega⟩
 unfold sphragisref09_Round.f roundP
 by_cases c1 : a1 ≥ 2147483648
 ·rw [if_pos c1, if_pos (.inl c1), sphragisref09_Round.j0, if_pos rfl]
 ·rw [if_neg c1]
  by_cases c2 : a2 ≥ 2147483648
  ·rw [if_pos (.inr c2), decide_eq_true c2, sphragisref09_Round.j0, if_pos rfl]
  ·rw [if_neg (by omega), decide_eq_false c2, sphragisref09_Round.j0, if_neg (by simp)]
   have := ref_round_l0 hp hl (a3 := a3) h1 h2 (by omega) (by omega) l.length 0 k [] (by omega) (by simp) (by omega)
   simpa using this
end Go.Proofs.YtoimgijhekahhaaGreat.P
namespace Go.Proofs.YtoimgijhekahhaaGreat.P
set_option linter.unusedVariables false
set_option linter.unusedSimpArgs false
open Go.RowKit Go.Proofs.YtoimgijhekahhaaGreatOwn Go.Proofs.YtoimgijhekahhaaGreatW.PrintWords Go.Proofs.YtoimgijhekahhaaGreatW.PrintLast Go.Proofs.YtoimgijhekahhaaGreatW.PrintMore
theorem ref_RightBox.eq (a b c d : Int) : sphragisref08_RightBox.f a b c d = some (boxB a b c d) := by
 unfold sphragisref08_RightBox.f
 by_cases h1 : a ≤ c
 ·rw [if_pos h1]
  by_cases h2 : b ≤ d
  ·rw [if_pos h2]
   by_cases h3 : c < 2147483648
   ·rw [if_pos h3]; congr 1; rw [Bool.eq_iff_iff, decide_eq_true_iff, boxB_iff]; omega
   ·rw [if_neg h3]; congr 1; symm; rw [Bool.eq_false_iff]; intro h; exact h3 (boxB_iff.1 h).2.2.1
  ·rw [if_neg h2]; congr 1; symm; rw [Bool.eq_false_iff]; intro h; exact h2 (boxB_iff.1 h).2.1
 ·rw [if_neg h1]; congr 1; symm; rw [Bool.eq_false_iff]; intro h; exact h1 (boxB_iff.1 h).1
theorem ref_In.eq (a b c d u v : Int) : sphragisref08_In.f a b c d u v = some (inB a b c d u v) := by
 unfold sphragisref08_In.f; rw [ref_RightBox.eq]; exact in_chain a b c d u v
end Go.Proofs.YtoimgijhekahhaaGreat.P
set_option linter.unusedVariables false
set_option linter.unusedSimpArgs false
namespace Go.Proofs.YtoimgijhekahhaaGreat.P
open Go.RowKit Go.Proofs.YtoimgijhekahhaaGreatOwn Go.Proofs.YtoimgijhekahhaaGreatW.PrintWords Go.Proofs.YtoimgijhekahhaaGreatW.PrintLast Go.Proofs.YtoimgijhekahhaaGreatW.PrintMore
theorem ref_window_l0 {l : List Row} (hl : l.length ≤ 1000) (b0 b1 b2 b3 : Int) : ∀ (m j k : Nat) (acc : List Row), j + m = l.length → acc.length ≤ j → m < k →
  sphragisref09_Window.l0 k l acc (j : Int) b0 b1 b2 b3 = some (acc ++ (l.drop j).filter (inR b0 b1 b2 b3), 0)
 | m, j, 0, _, _, _, h => by omega
 | 0, j, k + 1, acc, hj, _, _ => by
  rw [sphragisref09_Window.l0, if_neg (by omega), List.drop_eq_nil_of_le (by omega)]
  simp
 | m + 1, j, k + 1, acc, hj, hacc, hk => by
  have hjl : j < l.length := by omega
  have hw : wrap64 ((j : Int) + 1) = ((j + 1 : Nat) : Int) := by rw [wrap64_id (by omega) (by omega)]; omega
  rw [sphragisref09_Window.l0, if_pos (by omega), if_pos (by omega), rd_at l j hjl, ref_In.eq, Option.bind_some, hw, List.drop_eq_getElem_cons hjl]
  cases hh : inB b0 b1 b2 b3 l[j].f1 l[j].f2 with
  | true =>
   rw [if_pos rfl, if_pos (by omega)]
   have := ref_window_l0 hl b0 b1 b2 b3 m (j + 1) k (acc ++ [l[j]]) (by omega) (by simp; omega) (by omega)
   show sphragisref09_Window.l0 k l (acc ++ [l[j]]) ((j + 1 : Nat) : Int) b0 b1 b2 b3 = _
   rw [this]
   have hn : inR b0 b1 b2 b3 l[j] = true := hh
   simp only [List.filter_cons, hn, if_true, List.append_assoc, List.singleton_append]
  | false =>
   rw [if_neg (by simp)]
   have := ref_window_l0 hl b0 b1 b2 b3 m (j + 1) k acc (by omega) (by omega) (by omega)
   rw [this]
   have hn : inR b0 b1 b2 b3 l[j] = false := hh
   simp only [List.filter_cons, hn, if_false, Bool.false_eq_true]
theorem ref_window_eq {l : List Row} (hl : l.length ≤ 1000) (b0 b1 b2 b3 : Int) {k : Nat} (hk : l.length < k) : sphragisref09_Window.f k l b0 b1 b2 b3 = some (windowP l b0 b1 b2 b3) := by
 unfold sphragisref09_Window.f windowP
 rw [ref_RightBox.eq, Option.bind_some]
 cases boxB b0 b1 b2 b3 with
 | false => rfl
 | true =>
  rw [if_pos rfl, if_pos rfl]
  have := ref_window_l0 hl b0 b1 b2 b3 l.length 0 k [] (by omega) (by simp) (by omega)
  simpa using this
end Go.Proofs.YtoimgijhekahhaaGreat.P

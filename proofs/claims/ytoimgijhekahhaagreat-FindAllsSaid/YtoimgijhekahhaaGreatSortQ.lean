/- slices.SortFunc at a row that may begin inside its block: what it comes to, over any program. -/
import Derived.Shelf.SlSortCmp.NoneTotal
import Derived.Test.YtoimgijhekahhaaGreatWWords
namespace Go.Proofs.YtoimgijhekahhaaGreatSort
open Go.Shelf Go.RowKit Go.Lib Go.Sort Go.Proofs.YtoimgijhekahhaaGreatW.PrintWords
set_option linter.unusedVariables false
set_option linter.unusedSimpArgs false
variable {α : Type} [Inhabited α]
theorem flat_get (enc : α → List Value) (k : Nat) (hk : ∀ x, (enc x).length = k) (hk0 : 0 < k) : ∀ (l : List α) (t : Nat), t < l.length * k → (l.flatMap enc)[t]? = some ((enc (l[t / k]!))[t % k]!)
 | [], t, h => by simp at h
 | a :: l, t, h => by
  rw [List.flatMap_cons]
  by_cases ht : t < k
  ·rw [List.getElem?_append_left (by rw [hk]; exact ht), Nat.div_eq_of_lt ht, Nat.mod_eq_of_lt ht]
   have : t < (enc a).length := by rw [hk]; exact ht
   simp [this]
  ·obtain ⟨u, rfl⟩ : ∃ u, t = u + k := ⟨t - k, by omega⟩
   have hu : u < l.length * k := by simp only [List.length_cons, Nat.add_mul, Nat.one_mul] at h; omega
   rw [List.getElem?_append_right (by rw [hk]; omega), hk, Nat.add_sub_cancel, flat_get enc k hk hk0 l u hu, Nat.add_div_right u hk0, Nat.add_mod_right]
   simp
omit [Inhabited α] in
theorem flat_len (enc : α → List Value) (k : Nat) (hk : ∀ x, (enc x).length = k) : ∀ (l : List α), (l.flatMap enc).length = l.length * k
 | [] => by simp
 | a :: l => by rw [List.flatMap_cons, List.length_append, hk, flat_len enc k hk l, List.length_cons, Nat.add_mul]; omega
theorem flatK_list (enc : α → List Value) (k : Nat) (hk : ∀ x, (enc x).length = k) (hk0 : 0 < k) (d : Array α) : (flatK enc k d).toList = d.toList.flatMap enc := by
 apply List.ext_getElem?
 intro t
 by_cases ht : t < d.size * k
 ·rw [flat_get enc k hk hk0 d.toList t (by simpa using ht)]
  have := get_flatK enc k d t ht
  have hs : t < (flatK enc k d).size := by simpa using ht
  rw [getElem!_pos _ t hs] at this
  have hlt : t / k < d.size := Nat.div_lt_of_lt_mul (by rw [Nat.mul_comm]; exact ht)
  have e : d.toList[t / k]! = d[t / k]! := by rw [getElem!_pos d.toList (t / k) (by simpa using hlt), getElem!_pos d (t / k) hlt]; simp
  rw [Array.getElem?_toList, Array.getElem?_eq_getElem hs, this, e]
 ·rw [List.getElem?_eq_none (by simpa using ht), List.getElem?_eq_none (by rw [flat_len enc k hk]; simpa using ht)]
theorem sortW_block (enc : α → List Value) (k : Nat) (w : World) (g off m : Nat) (d : Array α) (os : Array Obj) {cur : Array Value} {e : TypeId} {fr : Nat × Nat} (h : w.heap[g]? = some (.cells cur e fr)) :
  (sortWorldK enc k w g off m d os).heap[g]? = some (.cells (putCells id off (flatK enc k d) cur) e fr) := by
 have hlt : g < w.heap.size := (Array.getElem?_eq_some_iff.1 h).1
 unfold sortWorldK putRowK putRow grow
 show (((Sort.ahead w m).heap.modify g _) ++ os)[g]? = _
 rw [Array.getElem?_append_left (by simpa [Sort.ahead] using hlt)]
 show (w.heap.modify g _)[g]? = _
 rw [Array.getElem?_modify, if_pos rfl, h]
 rfl
theorem sortW_grown (enc : α → List Value) (k : Nat) (w : World) (g off m : Nat) (d : Array α) (os : Array Obj) : w.grownBy (sortWorldK enc k w g off m d os) (some g) := by
 have hs : (sortWorldK enc k w g off m d os).heap.size = w.heap.size + os.size := by
  unfold sortWorldK putRowK putRow grow
  show (((Sort.ahead w m).heap.modify g _) ++ os).size = _
  simp [Sort.ahead]
 refine ⟨rfl, rfl, rfl, by omega, fun i hi hne => ?_⟩
 have hgi : g ≠ i := fun e => hne (by rw [e])
 unfold sortWorldK putRowK putRow grow
 show (((Sort.ahead w m).heap.modify g _) ++ os)[i]? = _
 rw [Array.getElem?_append_left (by simpa [Sort.ahead] using hi)]
 show (w.heap.modify g _)[i]? = _
 rw [Array.getElem?_modify, if_neg hgi]
theorem put_take (off : Nat) (F cur : Array Value) (h : off + F.size ≤ cur.size) : ((putCells id off F cur).toList.drop off).take F.size = F.toList := by
 apply List.ext_getElem?
 intro t
 by_cases ht : t < F.size
 ·rw [List.getElem?_take, if_pos ht, List.getElem?_drop, Array.getElem?_toList, Array.getElem?_toList]
  simp only [putCells, Array.getElem?_mapIdx]
  rw [Array.getElem?_eq_getElem (show off + t < cur.size by omega), Array.getElem?_eq_getElem ht, Option.map_some, if_pos ⟨by omega, by omega⟩, Nat.add_sub_cancel_left, getElem!_pos F t ht]
  rfl
 ·rw [List.getElem?_eq_none (by rw [List.length_take]; omega), List.getElem?_eq_none (by simpa using ht)]
theorem put_size (off : Nat) (F cur : Array Value) : (putCells id off F cur).size = cur.size := by simp [putCells]
theorem sort_row {P : Program} {ρ : Ren} (L : SlLaysF0.n6 P ρ) (k : Nat) (hk0 : 0 < k) (aE : ∀ w, (isAgg (ρ.t 24)).run P w = .ok true w) (zE : ∀ w, (Go.sizeOf (ρ.t 24)).run P w = .ok k w) (enc : α → List Value) (hk : ∀ x, (enc x).length = k) (h1 : ∀ x, ∀ v ∈ enc x, v.oneCell' = true)
  (cf : α → α → Int) (hO : SWO (ltOf cf)) (g : Nat) (cb : Array Value) (eg : ∀ args w, (callFunc g args).run P w = .ok (.enter g args) w) (base : Nat) (e : TypeId) (v : Value) (l : List α) (w : World)
  (h : QRow w base e k v l.length (l.flatMap enc)) (hlen : l.length < 4611686018427387904) (hcmp : ∀ blk off, CmpLays P g cb enc k cf blk off l.length w) :
  Calls P (ρ.f 6) #[v, .func (.func g) #[] cb] w fun r w' => r = .returned (.tuple #[]) ∧ ∃ l' : List α, l'.Perm l ∧ l'.Pairwise (fun a b => ¬ cf b a < 0) ∧ QRow w' base e k v l.length (l'.flatMap enc) ∧ w.grownBy w' v.ownBlock := by
 rcases h.2 with ⟨h0, A, hv, hA⟩ | ⟨b, off, cap, cur, hv, hbg, hg, hnc, hcm, hcs, htake⟩
 ·have hl : l = [] := List.eq_nil_of_length_eq_zero h0
  subst hv
  subst hl
  refine (AnyF.slices_SortFunc_none L A 0 _ w).mono ?_
  rintro r w' ⟨rfl, rfl⟩
  exact ⟨rfl, [], .refl _, List.Pairwise.nil, h, World.grownBy.refl _ _⟩
 ·subst hv
  have hlt : b < w.heap.size := (Array.getElem?_eq_some_iff.1 hg).1
  have hf : (flatK enc k l.toArray).toList = l.flatMap enc := flatK_list enc k hk hk0 l.toArray
  have hfs : (flatK enc k l.toArray).size = l.length * k := by simp
  have hfit : off * k + l.length * k ≤ cur.size := by rw [hcs, ← Nat.add_mul]; exact Nat.mul_le_mul_right _ (by omega)
  have hH : HoldsK enc k w b (off * k) l.toArray := by
   intro j hj
   rw [hfs] at hj
   refine ⟨?_, by simp [World.frozen?, hg]⟩
   have h3 : (l.flatMap enc)[j]? = cur[off * k + j]? := by rw [← htake, List.getElem?_take, if_pos hj, List.getElem?_drop, Array.getElem?_toList]
   have h4 : (flatK enc k l.toArray)[j]? = cur[off * k + j]? := by rw [← h3, ← hf, Array.getElem?_toList]
   have h5 : (flatK enc k l.toArray)[j]? = some (flatK enc k l.toArray)[j]! := by rw [getElem!_pos _ j (by omega)]; exact Array.getElem?_eq_getElem _
   have h6 : w.cell? ⟨b, off * k + j, none⟩ = cur[off * k + j]? := by simp [World.cell?, hg]
   rw [h6, ← h4, h5]
   rfl
  have hc := AnyQ.slices_SortFunc L k aE zE enc hk h1 cf hO g cb b (off * k) cap l.toArray w eg (by simpa using hcmp b (off * k)) hH hlt (by simpa using hlen)
  rw [show l.toArray.size = l.length by simp] at hc
  refine hc.mono ?_
  rintro r w' ⟨rfl, d', n, os, ⟨hsz, _, hp⟩, hs, rfl⟩
  have hsz' : d'.size = l.length := by simpa using hsz
  have e1 : d'.extract 0 l.length = d' := by rw [← hsz']; exact Array.extract_size
  have e2 : l.toArray.extract 0 l.length = l.toArray := by have := Array.extract_size (xs := l.toArray); simp
  rw [e1, e2] at hp
  refine ⟨rfl, d'.toList, by simpa using hp, ?_, ⟨by rw [flat_len enc k hk]; simp [hsz'], .inr ⟨b, off, cap, _, rfl, hbg, sortW_block enc k w b (off * k) n d' os hg, hnc, hcm, by rw [put_size]; exact hcs, ?_⟩⟩, sortW_grown enc k w b (off * k) n d' os⟩
  ·rw [List.pairwise_iff_getElem]
   intro i j hi hj hij
   have hi' : i < d'.size := by simpa using hi
   have hj' : j < d'.size := by simpa using hj
   have := hs i j (Nat.zero_le _) hij (by omega)
   rw [getElem!_pos d' i hi', getElem!_pos d' j hj'] at this
   simpa [ltOf] using this
  ·have hF : (flatK enc k d').size = l.length * k := by simp [hsz']
   rw [← hF, put_take _ _ _ (by omega), flatK_list enc k hk hk0 d']
theorem sort_own {P : Program} {ρ : Ren} (L : SlLaysF0.n6 P ρ) (k : Nat) (hk0 : 0 < k) (aE : ∀ w, (isAgg (ρ.t 24)).run P w = .ok true w) (zE : ∀ w, (Go.sizeOf (ρ.t 24)).run P w = .ok k w) (enc : α → List Value) (hk : ∀ x, (enc x).length = k) (h1 : ∀ x, ∀ v ∈ enc x, v.oneCell' = true)
  (cf : α → α → Int) (hO : SWO (ltOf cf)) (g : Nat) (cb : Array Value) (eg : ∀ args w, (callFunc g args).run P w = .ok (.enter g args) w) (base : Nat) (e : TypeId) (v : Value) (l : List α) (w : World)
  (h : w.ownsRow base e k v l.length (l.flatMap enc)) (hlen : l.length < 4611686018427387904) (hcmp : ∀ blk off, CmpLays P g cb enc k cf blk off l.length w) :
  Calls P (ρ.f 6) #[v, .func (.func g) #[] cb] w fun r w' => r = .returned (.tuple #[]) ∧ ∃ l' : List α, l'.Perm l ∧ l'.Pairwise (fun a b => ¬ cf b a < 0) ∧ w'.ownsRow base e k v l.length (l'.flatMap enc) ∧ w.grownBy w' v.ownBlock := by
 by_cases h0 : l = []
 ·subst h0
  obtain ⟨A, c, rfl⟩ := own_slice h
  refine (AnyF.slices_SortFunc_none L A c _ w).mono ?_
  rintro r w' ⟨rfl, rfl⟩
  exact ⟨rfl, [], .refl _, List.Pairwise.nil, h, World.grownBy.refl _ _⟩
 ·have hpos : 0 < l.length := List.length_pos_iff.2 h0
  refine (sort_row L k hk0 aE zE enc hk h1 cf hO g cb eg base e v l w (q_of_own h) hlen hcmp).mono ?_
  rintro r w' ⟨rfl, l', hp, hs, hq, hg⟩
  refine ⟨rfl, l', hp, hs, ?_, hg⟩
  rcases h.2 with ⟨_, hz⟩ | ⟨g1, cap1, cur1, hv1, _, _, _, _, _, _⟩
  ·omega
  ·rcases hq.2 with ⟨hz, _⟩ | ⟨g2, off2, cap2, cur2, hv2, hb2, hh2, hn2, hc2, hs2, ht2⟩
   ·omega
   ·rw [hv1] at hv2
    simp only [Value.slice.injEq, Option.some.injEq, Addr.mk.injEq, and_true, true_and] at hv2
    obtain ⟨⟨rfl, ho⟩, rfl⟩ := hv2
    have ho2 : off2 = 0 := by
     rcases Nat.eq_zero_or_pos off2 with h | h
     ·exact h
     ·have := Nat.mul_pos h hk0; omega
    subst ho2
    rw [Nat.zero_mul, List.drop_zero] at ht2
    rw [Nat.zero_add] at hc2 hs2
    exact ⟨hq.1, .inr ⟨g1, cap1, cur2, hv1, hb2, hh2, hn2, hc2, hs2, ht2⟩⟩
end Go.Proofs.YtoimgijhekahhaaGreatSort

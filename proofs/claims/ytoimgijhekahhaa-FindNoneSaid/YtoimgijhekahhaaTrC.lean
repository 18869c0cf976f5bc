/- Layer 9, plain: the tree of rows: the program's is the closed one. -/
import Derived.Test.YtoimgijhekahhaaTrA
import Derived.Test.YtoimgijhekahhaaPx7
set_option linter.unusedVariables false
set_option linter.unusedSimpArgs false
namespace Go.Proofs.Ytoimgijhekahhaa.P
open Go.RowKit Go.Proofs.YtoimgijhekahhaaOwn Go.Proofs.YtoimgijhekahhaaW.PrintWords Go.Proofs.YtoimgijhekahhaaW.PrintLast Go.Proofs.YtoimgijhekahhaaW.PrintMore
def kidsT (t : List Row → Nod) (ps : List (List Row)) : List S42 := (ps.filter fun p => !p.isEmpty).map fun p => mkNode (t p)
def partsP (l : List Row) : List (List Row) := [partP (aroundP l) l 0, partP (aroundP l) l 1, partP (aroundP l) l 2, partP (aroundP l) l 3]
def treeP : Nat → List Row → Nod
  | 0, _ => (0, 0, 0, [], [])
  | n + 1, l => if l = [] then (0, 0, 0, [], []) else
      if l.length ≤ 4 ∨ levP l = 0 then ((aroundP l).1, (aroundP l).2.1, (aroundP l).2.2, l, [])
      else ((aroundP l).1, (aroundP l).2.1, (aroundP l).2.2, [], kidsT (treeP n) (partsP l))
theorem kidsP_eq {t' : List Row → Option Nod} {t : List Row → Nod} : ∀ {ps : List (List Row)}, (∀ p ∈ ps, p ≠ [] → t' p = some (t p)) → kidsP t' ps = some (kidsT t ps)
  | [], _ => rfl
  | p :: ps, h => by
    have ih := kidsP_eq (t' := t') (t := t) (ps := ps) (fun q hq => h q (List.mem_cons_of_mem _ hq))
    unfold kidsP
    by_cases e : p = []
    · rw [if_pos e, ih]; subst e; rfl
    · rw [if_neg e, h p (List.mem_cons_self) e, ih]
      cases p with
      | nil => exact absurd rfl e
      | cons a p => rfl
theorem around_lev {l : List Row} : (aroundP l).2.2 = (levP l : Int) := by cases l <;> rfl
theorem lowC_mod (x : Int) (n : Nat) : lowC x n % sz n = 0 := by unfold lowC; exact Int.mul_emod_left _ _
theorem around_right {l : List Row} (hp : ∀ r ∈ l, ptR r) : rightB (aroundP l).1 (aroundP l).2.1 (aroundP l).2.2 = true ∧ 0 ≤ (aroundP l).1 ∧ 0 ≤ (aroundP l).2.1 := by
  cases l with
  | nil => decide
  | cons r0 rs =>
    have h0 := hp r0 (List.mem_cons_self)
    have hv := levP_le hp
    have b1 := lowC_bd h0.1 (levP (r0 :: rs))
    have b2 := lowC_bd h0.2.2.1 (levP (r0 :: rs))
    have g1 := h0.2.1
    have g2 := h0.2.2.2
    refine ⟨rightB_iff.2 ⟨Int.natCast_nonneg _, ?_, ?_, ?_, ?_, ?_⟩, b1.1, b2.1⟩
    · show (levP (r0 :: rs) : Int) ≤ 31; omega
    · show lowC r0.f1 (levP (r0 :: rs)) < _; omega
    · show lowC r0.f2 (levP (r0 :: rs)) < _; omega
    · exact b1.2.2.2
    · exact b2.2.2.2
theorem around_has {l : List Row} (hp : ∀ r ∈ l, ptR r) {r : Row} (hr : r ∈ l) : hasB (aroundP l).1 (aroundP l).2.1 (aroundP l).2.2 r.f1 r.f2 = true := by
  cases l with
  | nil => simp at hr
  | cons r0 rs =>
    have h0 := hp r0 (List.mem_cons_self)
    have hv := levP_le hp
    show hasB (lowC r0.f1 (levP (r0 :: rs))) (lowC r0.f2 (levP (r0 :: rs))) (levP (r0 :: rs) : Int) r.f1 r.f2 = true
    rw [ref_has h0.1 h0.2.2.1 _ hv ⟨h0.2.1, h0.2.2.2⟩]
    exact (levP_iff rfl hp (by omega)).1 (Nat.le_refl _) r hr
theorem around_isQ {l : List Row} (hp : ∀ r ∈ l, ptR r) (hv : levP l ≠ 0) : isQ (aroundP l).1 (aroundP l).2.1 (aroundP l).2.2 = true := isQ_iff.2 ⟨(around_right hp).1, by rw [around_lev]; omega⟩
theorem bd_of_right {x y l : Int} (h : rightB x y l = true) : x < 4294967296 ∧ y < 4294967296 := by have := rightB_iff.1 h; omega
theorem whereP_eq {l : List Row} (hp : ∀ r ∈ l, ptR r) (r : Row) : whereP (aroundP l) r = (whereR (aroundP l).1 (aroundP l).2.1 (aroundP l).2.2 r.f1 r.f2).1 := by
  obtain ⟨h1, h2, h3⟩ := around_right hp
  have := bd_of_right h1
  unfold whereP
  rw [cell_Where.eq _ _ _ _ _ h2 this.1 h3 this.2]
/-- Each row is in one quarter; that is where it goes. -/
theorem where_k {l : List Row} (hp : ∀ r ∈ l, ptR r) (hv : levP l ≠ 0) {r : Row} (hr : r ∈ l) : ∃ k : Nat, k ≤ 3 ∧ hasB (qX (aroundP l).1 (aroundP l).2.2 k) (qY (aroundP l).2.1 (aroundP l).2.2 k) ((aroundP l).2.2 - 1) r.f1 r.f2 = true ∧ whereP (aroundP l) r = (k : Int) := by
  obtain ⟨_, h2, h3⟩ := around_right hp
  obtain ⟨k, hk, hh, hw⟩ := where_ex h2 h3 (around_isQ hp hv) (around_has hp hr)
  exact ⟨k, hk, hh, by rw [whereP_eq hp, hw]⟩
theorem where_iff {l : List Row} (hp : ∀ r ∈ l, ptR r) (hv : levP l ≠ 0) {r : Row} (hr : r ∈ l) {i : Nat} (hi : i ≤ 3) : hasB (qX (aroundP l).1 (aroundP l).2.2 i) (qY (aroundP l).2.1 (aroundP l).2.2 i) ((aroundP l).2.2 - 1) r.f1 r.f2 = (whereP (aroundP l) r == (i : Int)) := by
  obtain ⟨_, h2, h3⟩ := around_right hp
  rw [Bool.eq_iff_iff, beq_iff_eq]
  constructor
  · intro h
    rw [whereP_eq hp, where_of h2 h3 (around_isQ hp hv) i hi h]
  · intro h
    obtain ⟨k, hk, hh, hw⟩ := where_k hp hv hr
    have : k = i := by omega
    subst this
    exact hh
theorem div_of9 (n : Nat) : ∀ q z : Int, q % sz (n : Int) = 0 → q ≤ z → z < q + sz (n : Int) → z / sz (n : Int) = q / sz (n : Int) := by
  intro q z h1 h2 h3
  have hs := sz_pos n
  have hq : q = q / sz n * sz n := by have := Int.mul_ediv_add_emod q (sz n); rw [h1, Int.mul_comm] at this; omega
  refine Int.le_antisymm ?_ (div_le_div h2 n)
  have h4 : z < (q / sz n + 1) * sz n := by rw [Int.add_mul, Int.one_mul]; omega
  have := (Int.ediv_lt_iff_lt_mul (by omega : 0 < sz n)).2 h4
  omega
theorem part_sub {c : Int × Int × Int} {l : List Row} {i : Nat} {r : Row} (h : r ∈ partP c l i) : r ∈ l := (List.mem_filter.1 h).1
theorem part_len (c : Int × Int × Int) (l : List Row) (i : Nat) : (partP c l i).length ≤ l.length := List.length_filter_le _ _
theorem part_lev {l : List Row} (hp : ∀ r ∈ l, ptR r) (hv : levP l ≠ 0) {i : Nat} (hi : i ≤ 3) : levP (partP (aroundP l) l i) < levP l := by
  have h31 := levP_le hp
  have hpp : ∀ r ∈ partP (aroundP l) l i, ptR r := fun r h => hp r (part_sub h)
  cases hq : partP (aroundP l) l i with
  | nil => show 0 < _; omega
  | cons r0 rs =>
    have hle : levP (r0 :: rs) ≤ levP l - 1 := by
      rw [levP_iff rfl (by rw [← hq]; exact hpp) (by omega)]
      intro r hr
      rw [← hq] at hr
      have hr0 : r0 ∈ partP (aroundP l) l i := by rw [hq]; exact List.mem_cons_self
      have inq : ∀ s, s ∈ partP (aroundP l) l i → s.f1 / sz ((levP l - 1 : Nat) : Int) = qX (aroundP l).1 (aroundP l).2.2 i / sz ((levP l - 1 : Nat) : Int) ∧ s.f2 / sz ((levP l - 1 : Nat) : Int) = qY (aroundP l).2.1 (aroundP l).2.2 i / sz ((levP l - 1 : Nat) : Int) := by
        intro s hs
        have h1 := (List.mem_filter.1 hs).2
        rw [← where_iff hp hv (part_sub hs) hi] at h1
        obtain ⟨hrr, g1, g2, g3, g4⟩ := hasB_iff.1 h1
        obtain ⟨_, _, _, _, m1, m2⟩ := rightB_iff.1 hrr
        have e : (aroundP l).2.2 - 1 = ((levP l - 1 : Nat) : Int) := by rw [around_lev]; omega
        rw [e] at g3 g4 m1 m2
        exact ⟨div_of9 _ _ _ m1 g1 g3, div_of9 _ _ _ m2 g2 g4⟩
      have a := inq r hr
      have b := inq r0 hr0
      rw [oneB_iff]
      omega
    omega
theorem mem_parts {l p : List Row} (h : p ∈ partsP l) : ∃ i : Nat, i ≤ 3 ∧ p = partP (aroundP l) l i := by
  unfold partsP at h
  simp only [List.mem_cons, List.not_mem_nil, or_false] at h
  rcases h with h | h | h | h
  · exact ⟨0, by omega, h⟩
  · exact ⟨1, by omega, h⟩
  · exact ⟨2, by omega, h⟩
  · exact ⟨3, by omega, h⟩
theorem tree_eq : ∀ (n : Nat) (l : List Row) (k : Nat), (∀ r ∈ l, ptR r) → levP l < n → l.length ≤ 1000 → l.length + n + 1 ≤ k → quad_tree.f k l = some (treeP n l)
  | 0, l, k, _, h, _, _ => by omega
  | n + 1, l, 0, _, _, _, h => by omega
  | n + 1, l, k + 1, hp, hv, hl, hk => by
    rw [quad_tree.f, treeP]
    by_cases h0 : l = []
    · rw [if_pos h0, if_pos h0]
    · rw [if_neg h0, if_neg h0, around_eq h0 hp (by omega) k (by omega), Option.bind_some, if_pos hl]
      have hlev : (l.length ≤ 4 ∨ (aroundP l).2.2 = 0) ↔ (l.length ≤ 4 ∨ levP l = 0) := by rw [around_lev]; omega
      by_cases h1 : l.length ≤ 4 ∨ levP l = 0
      · rw [if_pos (hlev.2 h1), if_pos h1]
      · rw [if_neg (fun e => h1 (hlev.1 e)), if_neg h1]
        have hv0 : levP l ≠ 0 := fun e => h1 (.inr e)
        rw [if_pos (fun r hr => by obtain ⟨k, h2, _, h3⟩ := where_k hp hv0 hr; omega)]
        rw [show [partP (aroundP l) l 0, partP (aroundP l) l 1, partP (aroundP l) l 2, partP (aroundP l) l 3] = partsP l from rfl]
        rw [kidsP_eq (t := treeP n) (fun p hpm hne => by
          obtain ⟨i, hi, rfl⟩ := mem_parts hpm
          have := part_lev hp hv0 hi
          have hpl := part_len (aroundP l) l i
          exact tree_eq n _ k (fun r hr => hp r (part_sub hr)) (by omega) (by omega) (by omega))]
        rfl
end Go.Proofs.Ytoimgijhekahhaa.P

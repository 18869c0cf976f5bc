/- Layer 9, quad: the nearest rows: what holds between rounds. Plain. -/
import Derived.Test.YtoimgijhekahhaaNearA
namespace Go.Proofs.Ytoimgijhekahhaa.P
open Go.RowKit Go.Proofs.YtoimgijhekahhaaOwn Go.Proofs.YtoimgijhekahhaaW.PrintWords Go.Proofs.YtoimgijhekahhaaW.PrintLast Go.Proofs.YtoimgijhekahhaaW.PrintMore
set_option linter.unusedVariables false
set_option linter.unusedSimpArgs false
def dstR (x y : Int) (r : S54) : Int := match quad_far.f 1 r.f0 r.f1 r.f2 r.f3 x y with | some d => d | none => 0
def dstC (x y : Int) (c : S39) : Int := match cell_Far.f 1 c.f0 c.f1 c.f2 x y with | some d => d.1 | none => 0
def keyLt (x y : Int) (a b : S54) : Prop := dstR x y a < dstR x y b ∨ (dstR x y a = dstR x y b ∧ a.f0 < b.f0)
mutual
def goodN (x y : Int) : S42 → Prop
  | ⟨c, rs, ks⟩ => (∀ r ∈ rs ++ rowsL (fun _ => false) ks, dstC x y c ≤ dstR x y r) ∧ goodL x y ks
def goodL (x y : Int) : List S42 → Prop
  | [] => True
  | n :: l => goodN x y n ∧ goodL x y l
end
theorem goodL_mem {x y : Int} : ∀ {l : List S42} {n : S42}, n ∈ l → goodL x y l → goodN x y n
  | a :: l, n, h, ha => by
    rw [goodL] at ha
    rcases List.mem_cons.1 h with rfl | h
    · exact ha.1
    · exact goodL_mem h ha.2
theorem goodN_eq (x y : Int) (n : S42) : goodN x y n = ((∀ r ∈ n.f1 ++ rowsL (fun _ => false) n.f2, dstC x y n.f0 ≤ dstR x y r) ∧ goodL x y n.f2) := by cases n; rfl
def rowsT (t : Th9) : List S54 := if t.leaf = true then [t.row] else t.node.f1 ++ rowsL (fun _ => false) t.node.f2
structure OkT (x y : Int) (t : Th9) : Prop where
  leaf : t.leaf = true → t.far = dstR x y t.row
  node : t.leaf = false → (∀ r ∈ rowsT t, t.far ≤ dstR x y r) ∧ goodL x y t.node.f2
structure NearInv (x y : Int) (S : List S54) (q : List Th9) (out : List S54) : Prop where
  rest : ∃ R, S = out ++ R ∧ (q.flatMap rowsT).Perm R
  sorted : q.Pairwise fun a b => ¬ ordT b a < 0
  ok : ∀ t ∈ q, OkT x y t
theorem NearInv.pop {x y : Int} {S : List S54} {t : Th9} {q : List Th9} {out : List S54} (hS : S.Pairwise (keyLt x y)) (h : NearInv x y S (t :: q) out) (hl : t.leaf = true) : NearInv x y S q (out ++ [t.row]) := by
  obtain ⟨⟨R, hR, hp⟩, hs, ho⟩ := h
  have hsp := List.pairwise_cons.1 hs
  have hrt : rowsT t = [t.row] := by unfold rowsT; rw [if_pos hl]
  rw [List.flatMap_cons, hrt, List.singleton_append] at hp
  have hmem : t.row ∈ R := hp.mem_iff.1 List.mem_cons_self
  refine ⟨?_, hsp.2, fun t' ht => ho t' (List.mem_cons_of_mem _ ht)⟩
  cases R with
  | nil => simp at hmem
  | cons s R =>
    have e : t.row = s := by
      apply Decidable.byContradiction
      intro hne
      have hmem2 : t.row ∈ R := (List.mem_cons.1 hmem).resolve_left hne
      have hk : keyLt x y s t.row := by
        rw [hR] at hS
        exact (List.pairwise_cons.1 (List.pairwise_append.1 hS).2.1).1 t.row hmem2
      have hs2 : s ∈ q.flatMap rowsT := (List.mem_cons.1 (hp.mem_iff.2 List.mem_cons_self)).resolve_left (fun e => hne e.symm)
      obtain ⟨t', ht', hst⟩ := List.mem_flatMap.1 hs2
      have hno := hsp.1 t' ht'
      rw [ordT_neg] at hno
      have ho1 := ho t' (List.mem_cons_of_mem _ ht')
      have hft := (ho t List.mem_cons_self).leaf hl
      cases hl' : t'.leaf with
      | true =>
        have hst2 : s = t'.row := by unfold rowsT at hst; rw [if_pos hl'] at hst; simpa using hst
        have hft' := ho1.leaf hl'
        rw [← hst2] at hft'
        apply hno
        rw [hft, hft', hl, hl']
        rcases hk with hk | hk
        · exact .inl hk
        · exact .inr ⟨hk.1, .inr ⟨rfl, by rw [← hst2]; exact hk.2⟩⟩
      | false =>
        have hb := (ho1.node hl').1 s hst
        apply hno
        rw [hft, hl, hl']
        have hk2 : dstR x y s ≤ dstR x y t.row := by rcases hk with hk | hk <;> omega
        by_cases hlt : t'.far < dstR x y t.row
        · exact .inl hlt
        · exact .inr ⟨by omega, .inl ⟨rfl, rfl⟩⟩
    subst e
    exact ⟨R, by rw [hR]; simp, (List.perm_cons _).1 hp⟩
/-- Behind a node: its rows and its kids, put to the others, in any order that is right. -/
theorem NearInv.open_ {x y : Int} {S : List S54} {t : Th9} {q q2 q3 : List Th9} {out : List S54} (h : NearInv x y S (t :: q) out) (hl : t.leaf = false) (hrows : q2.flatMap rowsT = t.node.f1 ++ rowsL (fun _ => false) t.node.f2) (hok : ∀ t' ∈ q2, OkT x y t') (hperm : q3.Perm (q ++ q2)) (hsort : q3.Pairwise fun a b => ¬ ordT b a < 0) : NearInv x y S q3 out := by
  obtain ⟨⟨R, hR, hp⟩, hs, ho⟩ := h
  refine ⟨⟨R, hR, ?_⟩, hsort, fun t' ht => ?_⟩
  · have h1 : (q3.flatMap rowsT).Perm ((q ++ q2).flatMap rowsT) := hperm.flatMap_right _
    rw [List.flatMap_append, hrows] at h1
    have hrt : rowsT t = t.node.f1 ++ rowsL (fun _ => false) t.node.f2 := by unfold rowsT; rw [if_neg (by rw [hl]; simp)]
    rw [List.flatMap_cons, hrt] at hp
    exact h1.trans (List.perm_append_comm.trans hp)
  · rcases List.mem_append.1 (hperm.mem_iff.1 ht) with h1 | h1
    · exact ho t' (List.mem_cons_of_mem _ h1)
    · exact hok t' h1
theorem NearInv.done {x y : Int} {S : List S54} {q : List Th9} {out : List S54} {k : Nat} (h : NearInv x y S q out) (hk : out.length ≤ k) (he : q = [] ∨ k ≤ out.length) : out = S.take k := by
  obtain ⟨⟨R, hR, hp⟩, _, _⟩ := h
  rcases he with rfl | he
  · have : R = [] := List.nil_perm.1 hp
    subst this
    rw [hR, List.append_nil, List.take_of_length_le hk]
  · have : out.length = k := by omega
    rw [hR, List.take_append_of_le_length (by omega), List.take_of_length_le (by omega)]
mutual
def wN : S42 → Nat
  | ⟨_, rs, ks⟩ => 1 + rs.length + wL ks
def wL : List S42 → Nat
  | [] => 0
  | n :: l => wN n + wL l
end
def wT (t : Th9) : Nat := if t.leaf = true then 1 else wN t.node
def wQ (q : List Th9) : Nat := (q.map wT).sum
theorem wN_eq (n : S42) : wN n = 1 + n.f1.length + wL n.f2 := by cases n; rfl
theorem wT_pos (t : Th9) : 1 ≤ wT t := by unfold wT; split; exact Nat.le_refl _; rw [wN_eq]; omega
theorem wQ_cons (t : Th9) (q : List Th9) : wQ (t :: q) = wT t + wQ q := by simp [wQ]
theorem wQ_append (a b : List Th9) : wQ (a ++ b) = wQ a + wQ b := by simp [wQ]
theorem wQ_len : ∀ (q : List Th9), q.length ≤ wQ q
  | [] => Nat.zero_le _
  | t :: q => by rw [wQ_cons, List.length_cons]; have := wT_pos t; have := wQ_len q; omega
theorem wN_pos (n : S42) : 1 ≤ wN n := by rw [wN_eq]; omega
theorem wL_len : ∀ (l : List S42), l.length ≤ wL l
  | [] => Nat.zero_le _
  | n :: l => by rw [wL, List.length_cons]; have := wN_pos n; have := wL_len l; omega
theorem wQ_perm {a b : List Th9} (h : a.Perm b) : wQ a = wQ b := (h.map wT).sum_nat
mutual
theorem wN_rows : ∀ (n : S42), (rowsN (fun _ => false) n).length ≤ wN n
  | ⟨c, rs, ks⟩ => by
    have := wL_rows ks
    rw [wN, rowsN, if_neg (by simp), List.length_append]
    omega
theorem wL_rows : ∀ (l : List S42), (rowsL (fun _ => false) l).length ≤ wL l
  | [] => by rw [rowsL]; exact Nat.zero_le _
  | n :: l => by
    have := wN_rows n
    have := wL_rows l
    rw [wL, rowsL, List.length_append]
    omega
end
def thR (x y : Int) (r : S54) : Th9 := ⟨dstR x y r, 0, 0, 0, none, 0, 0, none, 0, 0, r, true, ⟨⟨0, 0, 0⟩, [], []⟩⟩
def thN (d : Int) (n : S42) (A3 : Option Addr) (k3 : Nat) (A4 : Option Addr) (k4 : Nat) : Th9 := ⟨d, n.f0.f0, n.f0.f1, n.f0.f2, A3, n.f1.length, k3, A4, n.f2.length, k4, ⟨0, 0, 0, ⟨#[]⟩⟩, false, n⟩
theorem thR_wQ (x y : Int) : ∀ (l : List S54), wQ (l.map (thR x y)) = l.length
  | [] => rfl
  | r :: l => by rw [List.map_cons, wQ_cons, thR_wQ x y l]; simp [wT, thR]; omega
theorem thR_rows (x y : Int) : ∀ (l : List S54), (l.map (thR x y)).flatMap rowsT = l
  | [] => rfl
  | r :: l => by rw [List.map_cons, List.flatMap_cons, thR_rows x y l]; simp [rowsT, thR]
/-- Things of nodes. -/
structure KidsT (x y : Int) (ks : List S42) (tn : List Th9) : Prop where
  n : tn.map (·.node) = ks
  t : ∀ t ∈ tn, t.leaf = false ∧ t.far = dstC x y t.node.f0
theorem KidsT.wQ {x y : Int} {ks : List S42} {tn : List Th9} (h : KidsT x y ks tn) : wQ tn = wL ks := by
  induction tn generalizing ks with
  | nil => have := h.n; simp at this; subst this; rfl
  | cons a tn ih =>
    have hn := h.n
    rw [List.map_cons] at hn
    subst hn
    have ha := (h.t a List.mem_cons_self).1
    rw [wQ_cons, wL, ih ⟨rfl, fun t ht => h.t t (List.mem_cons_of_mem _ ht)⟩]
    unfold wT
    rw [if_neg (by rw [ha]; simp)]
theorem KidsT.rows {x y : Int} {ks : List S42} {tn : List Th9} (h : KidsT x y ks tn) : tn.flatMap rowsT = rowsL (fun _ => false) ks := by
  induction tn generalizing ks with
  | nil => have := h.n; simp at this; subst this; rfl
  | cons a tn ih =>
    have hn := h.n
    rw [List.map_cons] at hn
    subst hn
    have ha := (h.t a List.mem_cons_self).1
    rw [List.flatMap_cons, rowsL, ih ⟨rfl, fun t ht => h.t t (List.mem_cons_of_mem _ ht)⟩, rowsN_eq, if_neg (by simp)]
    unfold rowsT
    rw [if_neg (by rw [ha]; simp)]
theorem KidsT.ok {x y : Int} {ks : List S42} {tn : List Th9} (h : KidsT x y ks tn) (hg : goodL x y ks) : ∀ t ∈ tn, OkT x y t := by
  intro t ht
  obtain ⟨hl, hf⟩ := h.t t ht
  refine ⟨fun e => (by rw [hl] at e; cases e), fun _ => ?_⟩
  have hm : t.node ∈ ks := by rw [← h.n]; exact List.mem_map_of_mem ht
  have hgn := goodL_mem hm hg
  rw [goodN_eq] at hgn
  refine ⟨fun r hr => ?_, hgn.2⟩
  rw [hf]
  refine hgn.1 r ?_
  unfold rowsT at hr
  rwa [if_neg (by rw [hl]; simp)] at hr
theorem thR_ok (x y : Int) (l : List S54) : ∀ t ∈ l.map (thR x y), OkT x y t := by
  intro t ht
  obtain ⟨r, _, rfl⟩ := List.mem_map.1 ht
  exact ⟨fun _ => rfl, fun e => by cases e⟩
end Go.Proofs.Ytoimgijhekahhaa.P

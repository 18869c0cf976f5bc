/- Layer 9, plain: the least cell that has all points of rows: the program's and the reference's are the same. -/
import Derived.Test.YtoimgijhekahhaaSqL
import Derived.Test.YtoimgijhekahhaaSqP
import Derived.Test.YtoimgijhekahhaaSqW
import Derived.Test.YtoimgijhekahhaaPx6
set_option linter.unusedVariables false
set_option linter.unusedSimpArgs false
namespace Go.Proofs.Ytoimgijhekahhaa.P
open Go.RowKit Go.Proofs.YtoimgijhekahhaaOwn Go.Proofs.YtoimgijhekahhaaW.PrintWords Go.Proofs.YtoimgijhekahhaaW.PrintLast Go.Proofs.YtoimgijhekahhaaW.PrintMore
def ptR (r : Row) : Prop := 0 ≤ r.f1 ∧ r.f1 < 2147483648 ∧ 0 ≤ r.f2 ∧ r.f2 < 2147483648
/-- The level of the least cell that has the point and those of rows, from level n on. -/
def levF (x y : Int) (n : Nat) (rs : List Row) : Nat := rs.foldl (fun m r => Nat.max m (leastL x y r.f1 r.f2)) n
def levP : List Row → Nat
  | [] => 0
  | r :: rs => levF r.f1 r.f2 0 (r :: rs)
def aroundP : List Row → Int × Int × Int
  | [] => (0, 0, 0)
  | r :: rs => (lowC r.f1 (levP (r :: rs)), lowC r.f2 (levP (r :: rs)), (levP (r :: rs) : Int))
theorem levF_iff {x y : Int} (hx : 0 ≤ x) (hx1 : x < 2147483648) (hy : 0 ≤ y) (hy1 : y < 2147483648) {m : Nat} (hm : m ≤ 64) : ∀ (rs : List Row) (n : Nat), (∀ r ∈ rs, ptR r) → (levF x y n rs ≤ m ↔ n ≤ m ∧ ∀ r ∈ rs, oneB x y r.f1 r.f2 m = true)
  | [], n, _ => by simp [levF]
  | r :: rs, n, h => by
    have hr := h r (List.mem_cons_self)
    show levF x y (Nat.max n (leastL x y r.f1 r.f2)) rs ≤ m ↔ _
    rw [levF_iff hx hx1 hy hy1 hm rs _ (fun r hr => h r (List.mem_cons_of_mem _ hr))]
    have := leastL_iff hx hx1 hy hy1 hr.1 hr.2.1 hr.2.2.1 hr.2.2.2 m hm
    have e : Nat.max n (leastL x y r.f1 r.f2) ≤ m ↔ n ≤ m ∧ oneB x y r.f1 r.f2 m = true := by rw [← this]; exact Nat.max_le
    rw [e]
    simp only [List.mem_cons, forall_eq_or_imp, and_assoc]
theorem levP_iff {l : List Row} {r0 : Row} {rs : List Row} (e : l = r0 :: rs) (h : ∀ r ∈ l, ptR r) {m : Nat} (hm : m ≤ 64) : levP l ≤ m ↔ ∀ r ∈ l, oneB r0.f1 r0.f2 r.f1 r.f2 m = true := by
  subst e
  have h0 := h r0 (List.mem_cons_self)
  show levF r0.f1 r0.f2 0 (r0 :: rs) ≤ m ↔ _
  rw [levF_iff h0.1 h0.2.1 h0.2.2.1 h0.2.2.2 hm _ _ h]
  simp
theorem levP_le {l : List Row} (h : ∀ r ∈ l, ptR r) : levP l ≤ 31 := by
  cases l with
  | nil => exact Nat.zero_le _
  | cons r0 rs =>
    rw [levP_iff rfl h (by omega)]
    have h0 := h r0 (List.mem_cons_self)
    intro r hr
    have h1 := h r hr
    exact oneB_top h0.1 h0.2.1 h0.2.2.1 h0.2.2.2 h1.1 h1.2.1 h1.2.2.1 h1.2.2.2
theorem nat_eq_of_le {a b : Nat} (ha : a ≤ 64) (hb : b ≤ 64) (h : ∀ m, m ≤ 64 → (a ≤ m ↔ b ≤ m)) : a = b := Nat.le_antisymm ((h b hb).2 (Nat.le_refl _)) ((h a ha).1 (Nat.le_refl _))

/-! the program's -/
def qf (q : Int × Int × Int × Int) (r : Row) : Int × Int × Int × Int := (mn q.1 r.f1, mn q.2.1 r.f2, mx q.2.2.1 r.f1, mx q.2.2.2 r.f2)
def edges (q : Int × Int × Int × Int) (rs : List Row) : Int × Int × Int × Int := rs.foldl qf q
theorem mn_le (a b : Int) : mn a b ≤ a ∧ mn a b ≤ b ∧ (mn a b = a ∨ mn a b = b) := by unfold mn; split <;> omega
theorem mx_le (a b : Int) : a ≤ mx a b ∧ b ≤ mx a b ∧ (mx a b = a ∨ mx a b = b) := by unfold mx; split <;> omega
theorem edges_all : ∀ (rs : List Row) (q : Int × Int × Int × Int), ((edges q rs).1 ≤ q.1 ∧ (edges q rs).2.1 ≤ q.2.1 ∧ q.2.2.1 ≤ (edges q rs).2.2.1 ∧ q.2.2.2 ≤ (edges q rs).2.2.2) ∧
    (∀ r ∈ rs, (edges q rs).1 ≤ r.f1 ∧ (edges q rs).2.1 ≤ r.f2 ∧ r.f1 ≤ (edges q rs).2.2.1 ∧ r.f2 ≤ (edges q rs).2.2.2) ∧
    ((edges q rs).1 = q.1 ∨ ∃ r ∈ rs, (edges q rs).1 = r.f1) ∧ ((edges q rs).2.1 = q.2.1 ∨ ∃ r ∈ rs, (edges q rs).2.1 = r.f2) ∧ ((edges q rs).2.2.1 = q.2.2.1 ∨ ∃ r ∈ rs, (edges q rs).2.2.1 = r.f1) ∧ ((edges q rs).2.2.2 = q.2.2.2 ∨ ∃ r ∈ rs, (edges q rs).2.2.2 = r.f2)
  | [], q => ⟨⟨Int.le_refl _, Int.le_refl _, Int.le_refl _, Int.le_refl _⟩, by simp, .inl rfl, .inl rfl, .inl rfl, .inl rfl⟩
  | r :: rs, q => by
    obtain ⟨⟨a1, a2, a3, a4⟩, b, c1, c2, c3, c4⟩ := edges_all rs (qf q r)
    have m1 := mn_le q.1 r.f1
    have m2 := mn_le q.2.1 r.f2
    have m3 := mx_le q.2.2.1 r.f1
    have m4 := mx_le q.2.2.2 r.f2
    have e : edges q (r :: rs) = edges (qf q r) rs := rfl
    rw [e]
    replace a1 : (edges (qf q r) rs).1 ≤ mn q.1 r.f1 := a1
    replace a2 : (edges (qf q r) rs).2.1 ≤ mn q.2.1 r.f2 := a2
    replace a3 : mx q.2.2.1 r.f1 ≤ (edges (qf q r) rs).2.2.1 := a3
    replace a4 : mx q.2.2.2 r.f2 ≤ (edges (qf q r) rs).2.2.2 := a4
    replace c1 : (edges (qf q r) rs).1 = mn q.1 r.f1 ∨ ∃ r' ∈ rs, (edges (qf q r) rs).1 = r'.f1 := c1
    replace c2 : (edges (qf q r) rs).2.1 = mn q.2.1 r.f2 ∨ ∃ r' ∈ rs, (edges (qf q r) rs).2.1 = r'.f2 := c2
    replace c3 : (edges (qf q r) rs).2.2.1 = mx q.2.2.1 r.f1 ∨ ∃ r' ∈ rs, (edges (qf q r) rs).2.2.1 = r'.f1 := c3
    replace c4 : (edges (qf q r) rs).2.2.2 = mx q.2.2.2 r.f2 ∨ ∃ r' ∈ rs, (edges (qf q r) rs).2.2.2 = r'.f2 := c4
    refine ⟨⟨by omega, by omega, by omega, by omega⟩, ?_, ?_, ?_, ?_, ?_⟩
    · intro r' hr'
      rcases List.mem_cons.1 hr' with rfl | h
      · exact ⟨by omega, by omega, by omega, by omega⟩
      · exact b r' h
    · rcases c1 with h | ⟨r', h1, h2⟩
      · rcases m1.2.2 with g | g
        · exact .inl (by omega)
        · exact .inr ⟨r, List.mem_cons_self, by omega⟩
      · exact .inr ⟨r', List.mem_cons_of_mem _ h1, h2⟩
    · rcases c2 with h | ⟨r', h1, h2⟩
      · rcases m2.2.2 with g | g
        · exact .inl (by omega)
        · exact .inr ⟨r, List.mem_cons_self, by omega⟩
      · exact .inr ⟨r', List.mem_cons_of_mem _ h1, h2⟩
    · rcases c3 with h | ⟨r', h1, h2⟩
      · rcases m3.2.2 with g | g
        · exact .inl (by omega)
        · exact .inr ⟨r, List.mem_cons_self, by omega⟩
      · exact .inr ⟨r', List.mem_cons_of_mem _ h1, h2⟩
    · rcases c4 with h | ⟨r', h1, h2⟩
      · rcases m4.2.2 with g | g
        · exact .inl (by omega)
        · exact .inr ⟨r, List.mem_cons_self, by omega⟩
      · exact .inr ⟨r', List.mem_cons_of_mem _ h1, h2⟩
theorem quad_around_l0 (l : List Row) (hl : l.length < 4611686018427387904) : ∀ (n i k : Nat) (q : Int × Int × Int × Int), i + n = l.length → n < k →
    quad_around.l0 k q.1 q.2.1 q.2.2.1 q.2.2.2 l (l.length : Int) (i : Int) = (cell_Least.f (edges q (l.drop i)).1 (edges q (l.drop i)).2.1 (edges q (l.drop i)).2.2.1 (edges q (l.drop i)).2.2.2).bind fun b => some (b.1, b.2.1, b.2.2.1)
  | n, i, 0, _, _, h => by omega
  | 0, i, k + 1, q, hi, _ => by
    rw [quad_around.l0, if_neg (by omega), List.drop_eq_nil_of_le (by omega)]
    rfl
  | n + 1, i, k + 1, q, hi, hk => by
    have hil : i < l.length := by omega
    rw [quad_around.l0, if_pos (by omega), if_pos (by omega), if_pos (by omega), wrap64_id (by omega) (by omega), show (i : Int) + 1 = ((i + 1 : Nat) : Int) by omega, rd_at l i hil]
    have := quad_around_l0 l hl n (i + 1) k (qf q l[i]) (by omega) (by omega)
    simp only [qf] at this
    rw [this, List.drop_eq_getElem_cons hil]
    rfl
theorem div_le_div {a b : Int} (h : a ≤ b) (n : Nat) : a / sz n ≤ b / sz n := by
  have := sz_pos n
  exact Int.ediv_le_ediv (by omega) h
theorem around_eq {l : List Row} (hne : l ≠ []) (hp : ∀ r ∈ l, ptR r) (hl : l.length < 4611686018427387904) (k : Nat) (hk : l.length < k) : quad_around.f k l = some (aroundP l) := by
  cases l with
  | nil => exact absurd rfl hne
  | cons r0 rs =>
    have h0 := hp r0 (List.mem_cons_self)
    unfold quad_around.f
    rw [if_pos (by simp), show (0 : Int) = ((0 : Nat) : Int) from rfl, rd_at (r0 :: rs) 0 (by simp)]
    simp only [List.getElem_cons_zero]
    have hq := quad_around_l0 (r0 :: rs) hl (r0 :: rs).length 0 k (r0.f1, r0.f2, r0.f1, r0.f2) (by omega) hk
    simp only [List.drop_zero] at hq
    rw [hq]
    obtain ⟨⟨a1, a2, a3, a4⟩, b, c1, c2, c3, c4⟩ := edges_all (r0 :: rs) (r0.f1, r0.f2, r0.f1, r0.f2)
    generalize edges (r0.f1, r0.f2, r0.f1, r0.f2) (r0 :: rs) = E at a1 a2 a3 a4 b c1 c2 c3 c4 ⊢
    obtain ⟨x, y, u, v⟩ := E
    dsimp only at a1 a2 a3 a4 b c1 c2 c3 c4 ⊢
    have in1 : ∃ r ∈ r0 :: rs, x = r.f1 := by rcases c1 with h | h; exact ⟨r0, List.mem_cons_self, h⟩; exact h
    have in2 : ∃ r ∈ r0 :: rs, y = r.f2 := by rcases c2 with h | h; exact ⟨r0, List.mem_cons_self, h⟩; exact h
    have in3 : ∃ r ∈ r0 :: rs, u = r.f1 := by rcases c3 with h | h; exact ⟨r0, List.mem_cons_self, h⟩; exact h
    have in4 : ∃ r ∈ r0 :: rs, v = r.f2 := by rcases c4 with h | h; exact ⟨r0, List.mem_cons_self, h⟩; exact h
    clear c1 c2 c3 c4 hq
    have bx : 0 ≤ x ∧ x < 2147483648 := by obtain ⟨r, h, e⟩ := in1; have := hp r h; unfold ptR at this; omega
    have byy : 0 ≤ y ∧ y < 2147483648 := by obtain ⟨r, h, e⟩ := in2; have := hp r h; unfold ptR at this; omega
    have bu : 0 ≤ u ∧ u < 2147483648 := by obtain ⟨r, h, e⟩ := in3; have := hp r h; unfold ptR at this; omega
    have bv : 0 ≤ v ∧ v < 2147483648 := by obtain ⟨r, h, e⟩ := in4; have := hp r h; unfold ptR at this; omega
    rw [cell_Least.eq (by omega) (by omega) (by omega) (by omega) (by omega) (by omega) (by omega) (by omega), Option.bind_some]
    unfold leastR
    rw [if_pos ⟨bx.2, byy.2, bu.2, bv.2⟩]
    have hL : ∀ m, m ≤ 64 → (leastL x y u v ≤ m ↔ levP (r0 :: rs) ≤ m) := by
      intro m hm
      rw [leastL_iff bx.1 bx.2 byy.1 byy.2 bu.1 bu.2 bv.1 bv.2 m hm, levP_iff rfl hp hm, oneB_iff]
      constructor
      · rintro ⟨g1, g2⟩ r hr
        rw [oneB_iff]
        have q0 := b r0 (List.mem_cons_self)
        have q1 := b r hr
        have d1 := div_le_div q0.1 m
        have d2 := div_le_div q0.2.1 m
        have d3 := div_le_div q0.2.2.1 m
        have d4 := div_le_div q0.2.2.2 m
        have d5 := div_le_div q1.1 m
        have d6 := div_le_div q1.2.1 m
        have d7 := div_le_div q1.2.2.1 m
        have d8 := div_le_div q1.2.2.2 m
        omega
      · intro g
        obtain ⟨s1, h1, e1⟩ := in1
        obtain ⟨s2, h2, e2⟩ := in2
        obtain ⟨s3, h3, e3⟩ := in3
        obtain ⟨s4, h4, e4⟩ := in4
        have g1 := oneB_iff.1 (g s1 h1)
        have g2 := oneB_iff.1 (g s2 h2)
        have g3 := oneB_iff.1 (g s3 h3)
        have g4 := oneB_iff.1 (g s4 h4)
        rw [e1, e2, e3, e4]
        omega
    have t1 : leastL x y u v ≤ 31 := by rw [leastL_iff bx.1 bx.2 byy.1 byy.2 bu.1 bu.2 bv.1 bv.2 31 (by omega)]; exact oneB_top bx.1 bx.2 byy.1 byy.2 bu.1 bu.2 bv.1 bv.2
    have hLL : leastL x y u v = levP (r0 :: rs) := nat_eq_of_le (by omega) (by have := levP_le hp; omega) hL
    rw [hLL]
    have q0 := b r0 (List.mem_cons_self)
    have on := (leastL_iff bx.1 bx.2 byy.1 byy.2 bu.1 bu.2 bv.1 bv.2 (levP (r0 :: rs)) (by have := levP_le hp; omega)).1 (by omega)
    rw [oneB_iff] at on
    have d1 := div_le_div q0.1 (levP (r0 :: rs))
    have d2 := div_le_div q0.2.1 (levP (r0 :: rs))
    have d3 := div_le_div q0.2.2.1 (levP (r0 :: rs))
    have d4 := div_le_div q0.2.2.2 (levP (r0 :: rs))
    have e1 : lowC x (levP (r0 :: rs)) = lowC r0.f1 (levP (r0 :: rs)) := by unfold lowC; rw [show x / sz (levP (r0 :: rs)) = r0.f1 / sz (levP (r0 :: rs)) by omega]
    have e2 : lowC y (levP (r0 :: rs)) = lowC r0.f2 (levP (r0 :: rs)) := by unfold lowC; rw [show y / sz (levP (r0 :: rs)) = r0.f2 / sz (levP (r0 :: rs)) by omega]
    rw [e1, e2]
    rfl
end Go.Proofs.Ytoimgijhekahhaa.P

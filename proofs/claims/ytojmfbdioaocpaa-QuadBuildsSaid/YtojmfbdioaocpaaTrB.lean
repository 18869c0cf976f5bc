/- Layer 9, plain: the reference's least cell that has all points of rows. -/
import Derived.Test.YtojmfbdioaocpaaTrA
import Derived.Test.YtojmfbdioaocpaaSqR
import Derived.Test.YtojmfbdioaocpaaPx10
set_option linter.unusedVariables false
set_option linter.unusedSimpArgs false
namespace Go.Proofs.Ytojmfbdioaocpaa.P
open Go.RowKit Go.Proofs.YtojmfbdioaocpaaOwn Go.Proofs.YtojmfbdioaocpaaW.PrintWords Go.Proofs.YtojmfbdioaocpaaW.PrintLast Go.Proofs.YtojmfbdioaocpaaW.PrintMore
theorem lowC_zero (x : Int) : lowC x 0 = x := by unfold lowC sz; simp
theorem lowC_up {x : Int} (h0 : 0 ≤ x) (n : Nat) : lowC (lowC x n) (n + 1) = lowC x (n + 1) := by
  have h := lowC_bd h0 n
  have e : lowC x n / sz n = x / sz n := by
    have := (lowC_eq (u := x) h.1 n).1
    have h2 : lowC (lowC x n) n = lowC x n := by
      unfold lowC
      rw [Int.mul_ediv_cancel _ (by have := sz_pos n; omega)]
    exact this (by rw [h2]; omega)
  have := div_up e
  unfold lowC at this ⊢
  rw [this]
theorem ref_l1 {l : List Row} {x y : Int} (hx : 0 ≤ x) (hx1 : x < 2147483648) (hy : 0 ≤ y) (hy1 : y < 2147483648) {r : Row} (hr : ptR r) (i : Nat) (hi : wrap64 ((i : Int) + 1) = ((i + 1 : Nat) : Int)) : ∀ (d n k : Nat), n ≤ 31 → Nat.max n (leastL x y r.f1 r.f2) = n + d → d + 1 ≤ k →
    sphragisref09_around.l1 (k + 1) l i (oneB x y r.f1 r.f2 n) (lowC x n) (lowC y n) n r.f0 r.f1 r.f2 r.f3 = sphragisref09_around.l0 (k - d) l ((i + 1 : Nat) : Int) (lowC x (n + d : Nat)) (lowC y (n + d : Nat)) ((n + d : Nat) : Int)
  | 0, n, k, hn, hm, hk => by
    have : oneB x y r.f1 r.f2 n = true := by rw [← leastL_iff hx hx1 hy hy1 hr.1 hr.2.1 hr.2.2.1 hr.2.2.2 n (by omega)]; have := Nat.le_max_right n (leastL x y r.f1 r.f2); have e : Nat.max n (leastL x y r.f1 r.f2) = max n (leastL x y r.f1 r.f2) := rfl; omega
    rw [sphragisref09_around.l1, if_pos this, hi]
    rfl
  | d + 1, n, k, hn, hm, hk => by
    have e : Nat.max n (leastL x y r.f1 r.f2) = max n (leastL x y r.f1 r.f2) := rfl
    have hL : leastL x y r.f1 r.f2 = n + d + 1 := by omega
    have hL31 : leastL x y r.f1 r.f2 ≤ 31 := (leastL_iff hx hx1 hy hy1 hr.1 hr.2.1 hr.2.2.1 hr.2.2.2 31 (by omega)).2 (oneB_top hx hx1 hy hy1 hr.1 hr.2.1 hr.2.2.1 hr.2.2.2)
    have : oneB x y r.f1 r.f2 n = false := by
      rw [Bool.eq_false_iff]; intro h
      have := (leastL_iff hx hx1 hy hy1 hr.1 hr.2.1 hr.2.2.1 hr.2.2.2 n (by omega)).2 h
      omega
    obtain ⟨k, rfl⟩ : ∃ k', k = k' + 1 := ⟨k - 1, by omega⟩
    have bx := lowC_bd hx n
    have bY := lowC_bd hy n
    have b1 := lowC_bd hx (n + 1)
    have b2 := lowC_bd hy (n + 1)
    rw [sphragisref09_around.l1, this, if_neg (by simp), step_w n hn, if_pos (by rw [wrap_u64 _ (by omega) (by omega)]; omega), ref_low bx.1 (by omega) (n + 1) (by omega), ref_low bY.1 (by omega) (n + 1) (by omega)]
    rw [lowC_up hx, lowC_up hy]
    rw [ref_Has.eq k _ _ _ _ _ b1.1 (by omega) b2.1 (by omega) hr.1 (by have := hr.2.1; omega) hr.2.2.1 (by have := hr.2.2.2; omega), Option.bind_some]
    rw [ref_has hx hy (n + 1) (by omega) ⟨hx1, hy1⟩]
    have e2 : Nat.max (n + 1) (leastL x y r.f1 r.f2) = max (n + 1) (leastL x y r.f1 r.f2) := rfl
    have := ref_l1 (l := l) hx hx1 hy hy1 hr i hi d (n + 1) k (by omega) (by omega) (by omega)
    rw [this, show k + 1 - (d + 1) = k - d by omega, show n + 1 + d = n + (d + 1) by omega]
theorem ref_l0 {l : List Row} (hl : l.length < 4611686018427387904) (hp : ∀ r ∈ l, ptR r) {x y : Int} (hx : 0 ≤ x) (hx1 : x < 2147483648) (hy : 0 ≤ y) (hy1 : y < 2147483648) : ∀ (m i n k : Nat), i + m = l.length → n ≤ 31 → 2 * m + (31 - n) + 2 ≤ k →
    sphragisref09_around.l0 k l (i : Int) (lowC x n) (lowC y n) n = some (lowC x (levF x y n (l.drop i)), lowC y (levF x y n (l.drop i)), (levF x y n (l.drop i) : Int))
  | m, i, n, 0, _, _, hk => by omega
  | 0, i, n, k + 1, hi, _, _ => by
    rw [sphragisref09_around.l0, if_neg (by omega), List.drop_eq_nil_of_le (by omega)]
    rfl
  | m + 1, i, n, k + 1, hi, hn, hk => by
    have hil : i < l.length := by omega
    have hr := hp l[i] (List.getElem_mem hil)
    have bx := lowC_bd hx n
    have bY := lowC_bd hy n
    obtain ⟨k, rfl⟩ : ∃ k', k = k' + 1 := ⟨k - 1, by omega⟩
    rw [sphragisref09_around.l0, if_pos (by omega), if_pos (by omega), rd_at l i hil]
    rw [ref_Has.eq k _ _ _ _ _ bx.1 (by omega) bY.1 (by omega) hr.1 (by have := hr.2.1; omega) hr.2.2.1 (by have := hr.2.2.2; omega), Option.bind_some, ref_has hx hy n hn ⟨hx1, hy1⟩]
    have hL31 : leastL x y l[i].f1 l[i].f2 ≤ 31 := (leastL_iff hx hx1 hy hy1 hr.1 hr.2.1 hr.2.2.1 hr.2.2.2 31 (by omega)).2 (oneB_top hx hx1 hy hy1 hr.1 hr.2.1 hr.2.2.1 hr.2.2.2)
    obtain ⟨d, hd⟩ : ∃ d, Nat.max n (leastL x y l[i].f1 l[i].f2) = n + d := ⟨Nat.max n (leastL x y l[i].f1 l[i].f2) - n, by have : n ≤ Nat.max n (leastL x y l[i].f1 l[i].f2) := Nat.le_max_left _ _; omega⟩
    have hnd : n + d ≤ 31 := by rw [← hd]; exact Nat.max_le.2 ⟨hn, hL31⟩
    rw [ref_l1 hx hx1 hy hy1 hr i (by rw [wrap64_id (by omega) (by omega)]; omega) d n k hn hd (by omega)]
    rw [ref_l0 hl hp hx hx1 hy hy1 m (i + 1) (n + d) (k - d) (by omega) hnd (by omega), List.drop_eq_getElem_cons hil]
    show _ = some (lowC x (levF x y (Nat.max n (leastL x y l[i].f1 l[i].f2)) (l.drop (i + 1)) : Nat), _, _)
    rw [hd]
    show _ = some (_, lowC y (levF x y (Nat.max n (leastL x y l[i].f1 l[i].f2)) (l.drop (i + 1)) : Nat), ((levF x y (Nat.max n (leastL x y l[i].f1 l[i].f2)) (l.drop (i + 1)) : Nat) : Int))
    rw [hd]
theorem ref_around_eq {l : List Row} (hne : l ≠ []) (hp : ∀ r ∈ l, ptR r) (hl : l.length < 4611686018427387904) (k : Nat) (hk : 2 * l.length + 33 ≤ k) : sphragisref09_around.f k l = some (aroundP l) := by
  cases l with
  | nil => exact absurd rfl hne
  | cons r0 rs =>
    have h0 := hp r0 (List.mem_cons_self)
    unfold sphragisref09_around.f
    rw [if_pos (by simp), show (0 : Int) = ((0 : Nat) : Int) from rfl, rd_at (r0 :: rs) 0 (by simp)]
    simp only [List.getElem_cons_zero]
    have := ref_l0 hl hp h0.1 h0.2.1 h0.2.2.1 h0.2.2.2 rs.length 1 0 k (by simp; omega) (by omega) (by simp at hk; omega)
    rw [lowC_zero, lowC_zero] at this
    rw [show (1 : Int) = ((1 : Nat) : Int) from rfl, this]
    have e : levP (r0 :: rs) = levF r0.f1 r0.f2 0 rs := by
      have z : leastL r0.f1 r0.f2 r0.f1 r0.f2 = 0 := by
        have := (leastL_iff h0.1 h0.2.1 h0.2.2.1 h0.2.2.2 h0.1 h0.2.1 h0.2.2.1 h0.2.2.2 0 (by omega)).2 (oneB_iff.2 ⟨rfl, rfl⟩)
        omega
      show levF r0.f1 r0.f2 (Nat.max 0 (leastL r0.f1 r0.f2 r0.f1 r0.f2)) rs = _
      rw [z]
      rfl
    show some (lowC r0.f1 (levF r0.f1 r0.f2 0 rs : Nat), _, _) = some (lowC r0.f1 (levP (r0 :: rs) : Nat), lowC r0.f2 (levP (r0 :: rs) : Nat), ((levP (r0 :: rs) : Nat) : Int))
    rw [e]
    rfl
end Go.Proofs.Ytojmfbdioaocpaa.P

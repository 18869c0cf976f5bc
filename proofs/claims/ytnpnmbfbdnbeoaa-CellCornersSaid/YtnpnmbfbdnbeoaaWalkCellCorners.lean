/- The walk of CellCorners, by hand: it returns true. -/
import Derived.Test.YtnpnmbfbdnbeoaaSpP
import Derived.Test.YtnpnmbfbdnbeoaaSpL
import Derived.Test.YtnpnmbfbdnbeoaaSpS
import Derived.Test.YtnpnmbfbdnbeoaaPx1
import Derived.Test.YtnpnmbfbdnbeoaaPx13
import Derived.Test.YtnpnmbfbdnbeoaaPx2
import Derived.Test.YtnpnmbfbdnbeoaaPx3
import Derived.Test.YtnpnmbfbdnbeoaaPx4
namespace Go.Proofs.Ytnpnmbfbdnbeoaa.P
set_option linter.unusedVariables false
open Go.RowKit Go.Proofs.YtnpnmbfbdnbeoaaOwn Go.Proofs.YtnpnmbfbdnbeoaaW.PrintWords Go.Proofs.YtnpnmbfbdnbeoaaW.PrintLast Go.Proofs.YtnpnmbfbdnbeoaaW.PrintMore
attribute [local go_sem high] eqA24

set_option maxHeartbeats 4000000 in
set_option maxRecDepth 100000 in
theorem corners_no (x y l n : Int) (w : World) (hR : cell_Right.f x y l = some false) :
    Calls Try.prog 9 #[.agg #[.int .u32 x, .int .u32 y, .int .i64 l], .int .i64 n] w fun e w' => e = .returned (.bool true) ∧ Below w.heap.size w w' := by
  have HR := Aside0.mk hR
  clear hR
  go_enter Try.func9, Try.ntmps9
  go_wp2_with fail
  refine (sphragislaw08_shown.calls 64 true _ shown_true).mono ?_
  rintro e w1 ⟨rfl, hb1⟩
  have B := boxc_below (boxc_new w #[.int .u32 x, .int .u32 y, .int .i64 l] 24) hb1
  have HB := Aside0.mk (below_call (below_alloc' (Below.refl _ _) _) hb1)
  have c0 := (boxc_cell B 0).trans rfl
  have c1 := (boxc_cell B 1).trans rfl
  have c2 := (boxc_cell B 2).trans rfl
  clear hb1
  go_wp2_with fail
  refine (cell_Right.calls x y l false _ HR.out).mono ?_
  rintro e w2 ⟨rfl, hb2⟩
  have HB2 := Aside0.mk (below_call HB.out hb2)
  clear hb2
  go_wp2_with fail
  go_ret
  exact ⟨rfl, HB2.out⟩

set_option maxHeartbeats 8000000 in
set_option maxRecDepth 100000 in
theorem corners_yes (x y l n s : Int) (w : World) (hx : 0 ≤ x) (hy : 0 ≤ y) (hs : 1 ≤ s) (hs1 : s ≤ 2147483648) (hxs : x + s ≤ 2147483648) (hys : y + s ≤ 2147483648)
    (hR : cell_Right.f x y l = some true) (hS : sphragisref08_Size.f x y l = some s) (hL : cell_Least.f x y (x + (s - 1)) (y + (s - 1)) = some (x, y, l, 0))
    (hH1 : cell_Has.f x y l x y = some true) (hH2 : cell_Has.f x y l (x + (s - 1)) (y + (s - 1)) = some true) (q1 q2 q3 q4 : Int) (hQ : cell_Quarter.f x y l n = some (q1, q2, q3, q4))
    (hC : (q4 = 2 ∧ (l == 0 || decide (n < 0) || decide (3 < n)) = true) ∨ (q4 = 0 ∧ cell_Where.f x y l q1 q2 = some (n, 0) ∧ cell_Right.f q1 q2 q3 = some true)) :
    Calls Try.prog 9 #[.agg #[.int .u32 x, .int .u32 y, .int .i64 l], .int .i64 n] w fun e w' => e = .returned (.bool true) ∧ Below w.heap.size w w' := by
  have HR := Aside0.mk hR
  have HS := Aside0.mk hS
  have HL := Aside0.mk hL
  have HH1 := Aside0.mk hH1
  have HH2 := Aside0.mk hH2
  have HQ := Aside0.mk hQ
  have HC := Aside0.mk hC
  clear hR hS hL hH1 hH2 hQ hC
  have hbx : x + (s - 1) < 4294967296 := by omega
  have hby : y + (s - 1) < 4294967296 := by omega
  go_enter Try.func9, Try.ntmps9
  go_wp2_with fail
  refine (sphragislaw08_shown.calls 64 true _ shown_true).mono ?_
  rintro e w1 ⟨rfl, hb1⟩
  have B := boxc_below (boxc_new w #[.int .u32 x, .int .u32 y, .int .i64 l] 24) hb1
  have HB := Aside0.mk (below_call (below_alloc' (Below.refl _ _) _) hb1)
  have c0 := (boxc_cell B 0).trans rfl
  have c1 := (boxc_cell B 1).trans rfl
  have c2 := (boxc_cell B 2).trans rfl
  clear hb1
  go_wp2_with fail
  refine (cell_Right.calls x y l true _ HR.out).mono ?_
  rintro e w2 ⟨rfl, hb⟩
  replace B := boxc_below B hb
  replace HB := Aside0.mk (below_call HB.out hb)
  clear hb
  replace c0 := (boxc_cell B 0).trans rfl
  replace c1 := (boxc_cell B 1).trans rfl
  replace c2 := (boxc_cell B 2).trans rfl
  go_wp2_with fail
  refine (sphragisref08_Size.calls x y l s _ HS.out).mono ?_
  rintro e w3 ⟨rfl, hb⟩
  replace B := boxc_below B hb
  replace HB := Aside0.mk (below_call HB.out hb)
  clear hb
  replace c0 := (boxc_cell B 0).trans rfl
  replace c1 := (boxc_cell B 1).trans rfl
  replace c2 := (boxc_cell B 2).trans rfl
  go_wp2_with fail
  refine (cell_Least.calls x y (x + (s - 1)) (y + (s - 1)) _ _ _ _ _ HL.out).mono ?_
  rintro e w4 ⟨rfl, hb⟩
  replace B := boxc_below B hb
  replace HB := Aside0.mk (below_call HB.out hb)
  clear hb
  replace c0 := (boxc_cell B 0).trans rfl
  replace c1 := (boxc_cell B 1).trans rfl
  replace c2 := (boxc_cell B 2).trans rfl
  have hlt := boxc_lt B
  go_wp2_with fail
  refine (cell_Has.calls x y l x y true _ HH1.out).mono ?_
  rintro e w5 ⟨rfl, hb⟩
  replace B := boxc_below (boxc_alloc B _) hb
  replace HB := Aside0.mk (below_call (below_alloc' HB.out _) hb)
  clear hb
  replace c0 := (boxc_cell B 0).trans rfl
  replace c1 := (boxc_cell B 1).trans rfl
  replace c2 := (boxc_cell B 2).trans rfl
  go_wp2_with fail
  refine (cell_Has.calls x y l (x + (s - 1)) (y + (s - 1)) true _ HH2.out).mono ?_
  rintro e w6 ⟨rfl, hb⟩
  replace B := boxc_below B hb
  replace HB := Aside0.mk (below_call HB.out hb)
  clear hb
  replace c0 := (boxc_cell B 0).trans rfl
  replace c1 := (boxc_cell B 1).trans rfl
  replace c2 := (boxc_cell B 2).trans rfl
  go_wp2_with fail
  refine (cell_Quarter.calls x y l n _ _ _ _ _ HQ.out).mono ?_
  rintro e w7 ⟨rfl, hb⟩
  replace B := boxc_below B hb
  replace HB := Aside0.mk (below_call HB.out hb)
  clear hb
  replace c0 := (boxc_cell B 0).trans rfl
  replace c1 := (boxc_cell B 1).trans rfl
  replace c2 := (boxc_cell B 2).trans rfl
  have hlt7 := boxc_lt B
  rcases HC.out with ⟨rfl, hE⟩ | ⟨rfl, hW, hR⟩
  · clear HC
    by_cases hl : l = 0
    · subst hl
      clear hE
      go_wp2_with fail
      go_ret
      exact ⟨rfl, below_alloc' HB.out _⟩
    · have hl' : (l == 0) = false := beq_eq_false_iff_ne.2 hl
      by_cases hn : n < 0
      · clear hE
        go_wp2_with fail
        go_ret
        exact ⟨rfl, below_alloc' HB.out _⟩
      · have hn3 : 3 < n := by
          rw [hl', decide_eq_false hn] at hE
          simpa using hE
        clear hE
        go_wp2_with fail
        go_ret
        exact ⟨rfl, below_alloc' HB.out _⟩
  · clear HC
    have HW := Aside0.mk hW
    have HR := Aside0.mk hR
    clear hW hR
    go_wp2_with fail
    refine (cell_Where.calls x y l q1 q2 _ _ _ HW.out).mono ?_
    rintro e w8 ⟨rfl, hb⟩
    have D := boxc_below (boxc_new w7 #[.int .u32 q1, .int .u32 q2, .int .i64 q3] 24) hb
    replace HB := Aside0.mk (below_call (below_alloc' HB.out _) hb)
    clear hb c0 c1 c2
    have d0 := (boxc_cell D 0).trans rfl
    have d1 := (boxc_cell D 1).trans rfl
    have d2 := (boxc_cell D 2).trans rfl
    go_wp2_with fail
    refine (cell_Right.calls q1 q2 q3 true _ HR.out).mono ?_
    rintro e w9 ⟨rfl, hb⟩
    replace HB := Aside0.mk (below_call HB.out hb)
    clear hb d0 d1 d2
    go_wp2_with fail
    go_ret
    exact ⟨rfl, HB.out⟩

/-- The law as a function of its arguments, for its row. -/
def sphragislaw08_CellCorners.f (x y l n : Int) : Option Bool := if 0 ≤ x ∧ x < 4294967296 ∧ 0 ≤ y ∧ y < 4294967296 then some true else none
/-- The least cell of a right cell's two corners is the cell. -/
theorem corners_least {x y l : Int} (hx : 0 ≤ x) (hy : 0 ≤ y) (hr : rightB x y l = true) : leastR x y (x + sz l - 1) (y + sz l - 1) = (x, y, l, 0) := by
  obtain ⟨r0, r1, r2, r3, r4, r5⟩ := rightB_iff.1 hr
  have s := sz_pos l
  have f1 := right_far r0 r1 r2 r4
  have f2 := right_far r0 r1 r3 r5
  have p3 : x + sz l - 1 < 2147483648 := by omega
  have p4 : y + sz l - 1 < 2147483648 := by omega
  have hL := leastL_iff hx r2 hy r3 (u := x + sz l - 1) (v := y + sz l - 1) (by omega) p3 (by omega) p4
  obtain ⟨n, rfl⟩ := Int.eq_ofNat_of_zero_le r0
  have lo : ∀ z : Int, 0 ≤ z → z % sz (n : Int) = 0 → lowC z n = z := by
    intro z hz h
    unfold lowC
    have d := Int.mul_ediv_add_emod z (sz n)
    rw [h, Int.mul_comm] at d
    omega
  have e : leastL x y (x + sz n - 1) (y + sz n - 1) = n := by
    have up : leastL x y (x + sz n - 1) (y + sz n - 1) ≤ n := by
      rw [hL n (by omega)]
      refine oneB_iff.2 ⟨?_, ?_⟩
      · exact (lowC_eq hx n).1 ⟨by rw [lo x hx r4]; omega, by rw [lo x hx r4]; omega⟩
      · exact (lowC_eq hy n).1 ⟨by rw [lo y hy r5]; omega, by rw [lo y hy r5]; omega⟩
    apply Decidable.byContradiction
    intro hne
    have hm := (hL (n - 1) (by omega)).1 (by omega)
    have o := (oneB_iff.1 hm).1
    have b := (lowC_eq hx (n - 1)).2 o
    have s2 := sz_succ (n : Int) (by omega)
    rw [show ((n : Int) - 1) = ((n - 1 : Nat) : Int) by omega] at s2
    have b1 := lowC_bd hx (n - 1)
    have d : sz ((n - 1 : Nat) : Int) ∣ x := Int.dvd_trans ⟨2, by rw [s2, Int.mul_comm]⟩ (Int.dvd_of_emod_eq_zero r4)
    have e1 : lowC x (n - 1) = x := by
      unfold lowC
      have dd := Int.mul_ediv_add_emod x (sz ((n - 1 : Nat) : Int))
      rw [Int.emod_eq_zero_of_dvd d, Int.mul_comm] at dd
      omega
    have s3 := sz_pos ((n - 1 : Nat) : Int)
    rw [e1] at b
    omega
  unfold leastR
  rw [if_pos ⟨r2, r3, p3, p4⟩, e, lo x hx r4, lo y hy r5]


theorem sphragislaw08_CellCorners.calls (x : Int) (y : Int) (l : Int) (n : Int) (r : Bool) (w : World) (h : sphragislaw08_CellCorners.f x y l n = some r) :
    Calls Try.prog 9 #[.agg #[.int .u32 x, .int .u32 y, .int .i64 l], .int .i64 n] w fun e w' => e = .returned (.bool r) ∧ Below w.heap.size w w' := by
  unfold sphragislaw08_CellCorners.f at h
  by_cases hh : 0 ≤ x ∧ x < 4294967296 ∧ 0 ≤ y ∧ y < 4294967296
  · rw [if_pos hh] at h
    obtain rfl := Option.some.inj h
    obtain ⟨hx, hx1, hy, hy1⟩ := hh
    have eR := cell_Right.eq x y l hx hx1 hy hy1
    cases hr : rightB x y l with
    | false => exact corners_no x y l n w (by rw [eR, hr])
    | true =>
      obtain ⟨r0, r1, r2, r3, r4, r5⟩ := rightB_iff.1 hr
      have s := sz_pos l
      have s2 := sz_le l r1
      have f1 := right_far r0 r1 r2 r4
      have f2 := right_far r0 r1 r3 r5
      have e1 : x + (sz l - 1) = x + sz l - 1 := by omega
      have e2 : y + (sz l - 1) = y + sz l - 1 := by omega
      have eL : cell_Least.f x y (x + (sz l - 1)) (y + (sz l - 1)) = some (x, y, l, 0) := by
        rw [e1, e2, cell_Least.eq hx hx1 hy hy1 (by omega) (by omega) (by omega) (by omega), corners_least hx hy hr]
      have eH1 : cell_Has.f x y l x y = some true := by rw [cell_Has.eq x y l x y hx hx1 hy hy1, hasB_iff.2 ⟨hr, Int.le_refl _, Int.le_refl _, by omega, by omega⟩]
      have eH2 : cell_Has.f x y l (x + (sz l - 1)) (y + (sz l - 1)) = some true := by rw [cell_Has.eq x y l _ _ hx hx1 hy hy1, hasB_iff.2 ⟨hr, by omega, by omega, by omega, by omega⟩]
      have eQ := cell_Quarter.eq x y l n hx hx1 hy hy1
      refine corners_yes x y l n (sz l) w hx hy s s2 f1 f2 (by rw [eR, hr]) (ref_Size.eq x y l r0 r1) eL eH1 eH2 (quarterR x y l n).1 (quarterR x y l n).2.1 (quarterR x y l n).2.2.1 (quarterR x y l n).2.2.2 eQ ?_
      unfold quarterR
      by_cases hq : isQ x y l = true ∧ 0 ≤ n ∧ n ≤ 3
      · rw [if_pos hq]
        right
        obtain ⟨hq, n0, n3⟩ := hq
        obtain ⟨k, rfl⟩ := Int.eq_ofNat_of_zero_le n0
        have hk : k ≤ 3 := by omega
        obtain ⟨b0, b1, b2, b3⟩ := qXY_bd hx hy hq k hk
        have sp := sz_pos (l - 1)
        have hh : hasB (qX x l k) (qY y l k) (l - 1) (qX x l k) (qY y l k) = true := (q_has hx hy hq k hk _ _).2 ⟨Int.le_refl _, Int.le_refl _, by omega, by omega⟩
        simp only [Int.toNat_natCast]
        refine ⟨by first | trivial | rfl, ?_, ?_⟩
        · rw [cell_Where.eq x y l _ _ hx hx1 hy hy1, where_of hx hy hq k hk hh]
        · rw [cell_Right.eq _ _ _ b0 (by omega) b2 (by omega), q_right hx hy hq k hk]
      · rw [if_neg hq]
        left
        refine ⟨by first | trivial | rfl, ?_⟩
        rw [Bool.or_eq_true, Bool.or_eq_true, beq_iff_eq, decide_eq_true_iff, decide_eq_true_iff]
        apply Decidable.byContradiction
        intro h'
        exact hq ⟨isQ_iff.2 ⟨hr, by omega⟩, by omega, by omega⟩
  · rw [if_neg hh] at h
    simp at h

end Go.Proofs.Ytnpnmbfbdnbeoaa.P

/- Layer 9: the law QuadRings, walked: the nearest rows are those that are no farther than the last of them. -/
import Derived.Test.YtojmfbdioaocpaaLawC
import Derived.Test.YtojmfbdioaocpaaNearD
import Derived.Test.YtojmfbdioaocpaaPx16
import Derived.Test.YtojmfbdioaocpaaPx1601
import Derived.Test.YtojmfbdioaocpaaPx19
namespace Go.Proofs.Ytojmfbdioaocpaa.P
open Go.RowKit Go.Proofs.YtojmfbdioaocpaaOwn Go.Proofs.YtojmfbdioaocpaaW.PrintWords Go.Proofs.YtojmfbdioaocpaaW.PrintLast Go.Proofs.YtojmfbdioaocpaaW.PrintMore
set_option linter.unusedVariables false
set_option linter.unusedSimpArgs false
attribute [local go_sem] max2_int max_two min_two
def rings_T10 : Bool × List (List Nat × List Nat) := (true, [([], []), ([], []), ([1], [1]), ([2], [2]), ([0, 3], [0, 3]), ([4], [4]), ([5], [5]), ([], []), ([], []), ([8], [8]), ([9], [9]), ([7, 10], [7, 10]), ([11], [11]), ([12], [12]), ([6, 13], [6, 13]), ([], []), ([], []), ([14, 15, 16], [14, 15, 16]), ([17], [17]), ([18], [18]), ([18], [18]), ([19, 17, 0, 1, 2, 3, 4, 5, 6, 7, 8, 9, 10, 11, 12, 13, 14, 15, 16, 17, 18, 19], [19]), ([20, 21, 0, 1, 2, 3, 4, 5, 6, 7, 8, 9, 10, 11, 12, 13, 14, 15, 16, 17, 18, 19, 20, 21], [20])])
def rings_B10 : List Nat := [0, 0, 2, 6, 15, 31, 63, 0, 0, 256, 768, 1920, 3968, 8064, 16383, 0, 0, 131071, 262143, 524287, 524287, 1048575, 4194303]
theorem rings_tab10 : rtab .any (opsOf Try.f10 10) = rings_T10 := by kernel_rfl
theorem rings_bits10 : waitsOk rings_T10.2 rings_B10 = true := by kernel_rfl
def sphragislaw09_QuadRings.f (k : Nat) (l0 : List S26) (a1 : Int) (a2 : Int) (a3 : Int) : Option Bool :=
  (sphragislaw09_shown.f k).bind fun hd => (sphragislaw09_few.f l0).bind fun l => (quad_Build.f k l).bind fun q => if hd = true ∧ l.length ≤ 60 then (if q.2.2.2.2.2 = 0 ∧ 1 ≤ a3 ∧ a1 < 2147483648 ∧ a2 < 2147483648 then (quad_Near.f k q.1 q.2.1 q.2.2.1 q.2.2.2.1 q.2.2.2.2.1 a1 a2 a3).bind fun p => (quad_Size.f k q.1 q.2.1 q.2.2.1 q.2.2.2.1 q.2.2.2.2.1).bind fun z => (if p.2 = 0 ∧ (p.1.length : Int) = mn a3 z then (if p.1 = [] then some true else (cell_Far.f k (rd_T26 p.1 ((p.1.length : Int) - 1)).f1 (rd_T26 p.1 ((p.1.length : Int) - 1)).f2 0 a1 a2).bind fun d => (quad_Round.f k q.1 q.2.1 q.2.2.1 q.2.2.2.1 q.2.2.2.2.1 a1 a2 d.1).bind fun b => (if d.2 = 0 ∧ b.2 = 0 ∧ p.1.length ≤ b.1.length ∧ 0 ≤ d.1 ∧ d.1 < 18446744073709551616 then (if d.1 = 0 then some true else (quad_Round.f k q.1 q.2.1 q.2.2.1 q.2.2.2.1 q.2.2.2.2.1 a1 a2 (d.1 - 1)).bind fun c => (if c.2 = 0 ∧ c.1.length < p.1.length then some true else none)) else none)) else none) else some true) else none
set_option maxRecDepth 100000 in
set_option maxHeartbeats 4000000 in
theorem sphragislaw09_QuadRings.calls (k : Nat) (A0 : Option Addr) (c0 : Nat) (l0 : List S26) (a1 : Int) (a2 : Int) (a3 : Int) (r : Bool) (w : World) (hr0 : Kd.C k26 w A0 l0.length l0) (hc0 : l0.length ≤ c0) (h : sphragislaw09_QuadRings.f k l0 a1 a2 a3 = some r) :
    Calls Try.prog 10 #[.slice A0 l0.length c0, .int .u32 a1, .int .u32 a2, .int .i64 a3] w fun e w' => e = .returned (.bool r) ∧ Below w.heap.size w w' := by
  unfold sphragislaw09_QuadRings.f at h
  obtain ⟨hd, hs, h1⟩ := Option.bind_eq_some_iff.1 h
  obtain ⟨l, hf, h2⟩ := Option.bind_eq_some_iff.1 h1
  obtain ⟨⟨x, y, v, rs, ks, er⟩, hb, h3⟩ := Option.bind_eq_some_iff.1 h2
  clear h h1 h2
  have h := h3
  clear h3
  by_cases hc : hd = true ∧ l.length ≤ 60
  case neg => rw [if_neg hc] at h; cases h
  rw [if_pos hc] at h
  obtain ⟨rfl, hl60⟩ := hc
  try dsimp only at h
  have HS := Aside0.mk hs
  have HF := Aside0.mk hf
  have HB := Aside0.mk hb
  have HR := Aside0.mk hr0
  have HC := Aside0.mk hc0
  clear hs hf hb hr0 hc0
  go_enter Try.func10, Try.ntmps10
  go_wp2_with fail
  refine (sphragislaw09_shown.calls k true _ HS.out).mono ?_
  rintro e w1 ⟨rfl, hb1⟩
  have B1 := Aside0.mk (below_call (Below.refl w.heap.size w) hb1)
  go_wp2_with fail
  refine (few_calls9 A0 c0 l0 l _ (Kd.C_below HR.out (B1.out.mono (Nat.le_refl _))) HC.out HF.out).mono ?_
  rintro e w2 ⟨A, c, rfl, hlc, hC, hb2⟩
  have B2 := Aside0.mk (below_call B1.out hb2)
  have HL := Aside0.mk hC
  have HLC := Aside0.mk hlc
  clear hb1 hb2 hC hlc
  go_wp2_with fail
  refine (build_calls9 k A c l _ _ HL.out HLC.out HB.out).mono ?_
  rintro e w3 ⟨A3, c3, A4, c4, rfl, ⟨g3, C3, g4, C4⟩, hb3⟩
  dsimp only at g3 C3 g4 C4 ⊢
  have B3 := Aside0.mk (below_call B2.out hb3)
  have G3 := Aside0.mk g3
  have G4 := Aside0.mk g4
  have D3 := Aside0.mk C3
  have D4 := Aside0.mk C4
  have L3 := Aside0.mk (Kd.C_below HL.out (hb3.mono (Nat.le_refl _)))
  clear hb3 g3 g4 C3 C4
  have hu := Try.underlying33
  by_cases hcc : er = 0 ∧ 1 ≤ a3 ∧ a1 < 2147483648 ∧ a2 < 2147483648
  case neg =>
    rw [if_neg hcc] at h
    cases h
    have hor : er ≠ 0 ∨ a3 < 1 ∨ 2147483648 ≤ a1 ∨ 2147483648 ≤ a2 := by omega
    clear hcc
    by_cases he : er = 0
    · have heb : (er != 0) = false := bne_eq_false_iff_eq.2 he
      by_cases h1 : a3 < 1
      · have hk1 : decide (a3 < 1) = true := decide_eq_true h1
        clear he h1 hor
        go_wp2
        go_ret
        exact ⟨rfl, below_alloc' B3.out _⟩
      · have hk1 : decide (a3 < 1) = false := decide_eq_false h1
        by_cases h2 : 2147483648 ≤ a1
        · have hk2 : decide (2147483648 ≤ a1) = true := decide_eq_true h2
          clear he h1 h2 hor
          go_wp2
          go_ret
          exact ⟨rfl, below_alloc' B3.out _⟩
        · have hk2 : decide (2147483648 ≤ a1) = false := decide_eq_false h2
          have hk3 : decide (2147483648 ≤ a2) = true := decide_eq_true (by omega)
          clear he h1 h2 hor
          go_wp2
          go_ret
          exact ⟨rfl, below_alloc' B3.out _⟩
    · have heb : (er != 0) = true := bne_iff_ne.2 he
      clear he hor
      go_wp2
      go_ret
      exact ⟨rfl, below_alloc' B3.out _⟩
  rw [if_pos hcc] at h
  obtain ⟨rfl, h1, h2, h3⟩ := hcc
  have hk1 : decide (a3 < 1) = false := decide_eq_false (by omega)
  have hk2 : decide (2147483648 ≤ a1) = false := decide_eq_false (by omega)
  have hk3 : decide (2147483648 ≤ a2) = false := decide_eq_false (by omega)
  clear h1 h2 h3
  obtain ⟨⟨p1, p2⟩, hp, h1⟩ := Option.bind_eq_some_iff.1 h
  obtain ⟨z, hz, h2⟩ := Option.bind_eq_some_iff.1 h1
  clear h h1
  dsimp only at h2
  by_cases hmm : p2 = 0 ∧ (p1.length : Int) = mn a3 z
  case neg => rw [if_neg hmm] at h2; cases h2
  rw [if_pos hmm] at h2
  obtain ⟨rfl, hmn⟩ := hmm
  have H1 := Aside0.mk hp
  have H2 := Aside0.mk hz
  have HMN := Aside0.mk hmn
  clear hp hz hmn
  obtain ⟨W4, hW4⟩ : ∃ W4, w3.alloc (.cells #[.int .u32 x, .int .u32 y, .int .i64 v, .slice A3 rs.length c3, .slice A4 ks.length c4] 33) = W4 := ⟨_, rfl⟩
  have B4 : Aside0 (Below w3.heap.size w3 W4) := ⟨by rw [← hW4]; exact below_alloc' (Below.refl _ w3) _⟩
  have hn4 : W4.heap[w3.heap.size]? = some (.cells #[.int .u32 x, .int .u32 y, .int .i64 v, .slice A3 rs.length c3, .slice A4 ks.length c4] 33 (0, 0)) := by rw [← hW4]; exact boxc_new w3 _ _
  have n0 := boxc_cell hn4 0
  have n1 := boxc_cell hn4 1
  have n2 := boxc_cell hn4 2
  have n3 := boxc_cell hn4 3
  have n4 := boxc_cell hn4 4
  have HN4 := Aside0.mk hn4
  clear hn4
  go_wp2_with fail
  refine (quad_Near.calls k x y v A3 c3 rs A4 c4 ks a1 a2 a3 p1 0 _ (Kd.C_below D3.out B4.out) G3.out (Kd.C_below D4.out B4.out) G4.out H1.out).mono ?_
  rintro e w5 ⟨v5, rfl, hR5, hb5⟩
  have B5 := Aside0.mk (below_call B4.out hb5)
  have HN5 := Aside0.mk (boxc_below HN4.out hb5)
  obtain ⟨A5, c5, rfl⟩ := Kd.R_slice hR5
  have R5 := Aside0.mk (Kd.R_reads' hR5)
  clear hR5
  clear n0 n1 n2 n3 n4
  clear hb5
  have n0 := boxc_cell HN5.out 0
  have n1 := boxc_cell HN5.out 1
  have n2 := boxc_cell HN5.out 2
  have n3 := boxc_cell HN5.out 3
  have n4 := boxc_cell HN5.out 4
  go_wp2_with fail
  refine (quad_Size.calls k x y v A3 c3 rs A4 c4 ks z _ (Kd.C_below D3.out B5.out) G3.out (Kd.C_below D4.out B5.out) G4.out H2.out).mono ?_
  rintro e w6 ⟨rfl, hb6⟩
  have B6 := Aside0.mk (below_call B5.out hb6)
  have HN6 := Aside0.mk (boxc_below HN5.out hb6)
  have C6 := Aside0.mk (Kd.C_below R5.out.2.2 hb6)
  clear hb6
  clear n0 n1 n2 n3 n4
  have hmn2 : mn a3 z = (p1.length : Int) := HMN.out.symm
  by_cases hp0 : p1 = []
  case pos =>
    rw [if_pos hp0] at h2
    cases h2
    subst hp0
    have hmn3 : Builtin.min2 (.int .i64 a3) (.int .i64 z) = pure (.int .i64 0) := by rw [min2_int]; exact congrArg (fun x => (pure (Value.int .i64 x) : Sem Value)) hmn2
    clear hmn2
    go_wp2
    go_ret
    exact ⟨rfl, below_call B3.out B6.out⟩
  have hpos := List.length_pos_iff.2 hp0
  rw [if_neg hp0] at h2
  obtain ⟨⟨d1, d2⟩, hd, h3⟩ := Option.bind_eq_some_iff.1 h2
  obtain ⟨⟨b1, b2⟩, hb, h4⟩ := Option.bind_eq_some_iff.1 h3
  clear h2 h3
  dsimp only at h4 hb
  by_cases hcc : d2 = 0 ∧ b2 = 0 ∧ p1.length ≤ b1.length ∧ 0 ≤ d1 ∧ d1 < 18446744073709551616
  case neg => rw [if_neg hcc] at h4; cases h4
  rw [if_pos hcc] at h4
  obtain ⟨rfl, rfl, hlb, hd0, hd64⟩ := hcc
  obtain ⟨ad, e, r0, r1, r2, r3⟩ := at_T26 C6.out ((p1.length : Int) - 1) (by omega) (by omega)
  cases e
  generalize rd_T26 p1 ((p1.length : Int) - 1) = r at hd r0 r1 r2 r3
  obtain ⟨n, hn⟩ : ∃ n : Nat, p1.length = n + 1 := ⟨p1.length - 1, by omega⟩
  rw [show ((p1.length : Int) - 1).toNat = n by omega] at r0 r1 r2 r3
  have HDR := Aside0.mk hd
  have HBR := Aside0.mk hb
  have HLB := Aside0.mk hlb
  have HH4 := Aside0.mk h4
  have HD := Aside0.mk (And.intro hd0 hd64)
  have HMX := Aside0.mk (show n < 9223372036854775807 by have := R5.out.2.2.2.1; omega)
  have hmn3 : Builtin.min2 (.int .i64 a3) (.int .i64 z) = pure (.int .i64 ((n : Int) + 1)) := by rw [min2_int]; exact congrArg (fun x => (pure (Value.int .i64 x) : Sem Value)) (hmn2.trans (by rw [hn]; rfl))
  clear hd hb hlb h4 hd0 hd64 hmn2 hp0 hpos r0 r3
  have R5l := Aside0.mk R5.out.2.1
  simp only [hn] at R5l ⊢
  have hx1 : decide ((n : Int) + 1 = 0) = false := decide_eq_false (by omega)
  have hx2 : (((n + 1 : Nat) : Int) == 0) = false := beq_eq_false_iff_ne.2 (by omega)
  have hx3 : ((n : Int) + 1 == 0) = false := beq_eq_false_iff_ne.2 (by omega)
  go_wp2_with fail
  have B8 := Aside0.mk (below_drew1 B6.out)
  have HN8 := Aside0.mk (blk_drew HN6.out)
  refine start_ (n := 23) (S := fun w' => w'.cell? ⟨(ad.add (n * 4)).block, (ad.add (n * 4)).off + 1, none⟩ = some (.int .u32 r.f1) ∧ w'.cell? ⟨(ad.add (n * 4)).block, (ad.add (n * 4)).off + 2, none⟩ = some (.int .u32 r.f2)) (ds := []) #[false, false, false, false, false, false, false, false, false, false, false, false, false, false, false, false, false, false, false, false, false, false, false] (by kernel_rfl) rfl rfl ⟨r1, r2⟩ (fun hHeld => ?_); refine with_tabW rings_tab10 rings_bits10 (fun HT_ HW_ => ?_)
  have k0 : (0 ≤ (n : Int)) = True := eq_true (by omega)
  have k1 : ((n : Int) < (n : Int) + 1) = True := eq_true (by omega)
  have kw : wrap64 (n : Int) = (n : Int) := by have := HMX.out; unfold wrap64; omega
  clear r1 r2
  generalize w6.drew = w8 at B8 HN8 hHeld ⊢
  refine pure_ (i := 0) (N := some 66) (v := ?_) (a' := ?_) #[true, false, false, false, false, false, false, false, false, false, false, false, false, false, false, false, false, false, false, false, false, false, false] rfl rfl (any_of HT_.out (by kernel_rfl)) (fun _ _ _ h => h) (Or.inl ⟨by rfl, ?_⟩) ?_ ?_
  rotate_left
  · intro w'
    go_simp
    with_reducible rfl
  rotate_left
  · simp only [Act.put, List.setIfInBounds_toArray, List.set_cons_zero, List.set_cons_succ, i64_w, i32_w]
    rfl
  refine pure_ (i := 1) (N := some 67) (v := ?_) (a' := ?_) #[true, true, false, false, false, false, false, false, false, false, false, false, false, false, false, false, false, false, false, false, false, false, false] rfl rfl (any_of HT_.out (by kernel_rfl)) (fun _ _ _ h => h) (Or.inl ⟨by rfl, ?_⟩) ?_ ?_
  rotate_left
  · intro w'
    go_simp
    with_reducible rfl
  rotate_left
  · simp only [Act.put, List.setIfInBounds_toArray, List.set_cons_zero, List.set_cons_succ, i64_w, i32_w]
    rfl
  refine pure_ (i := 2) (N := some 68) (v := ?_) (a' := ?_) #[true, true, true, false, false, false, false, false, false, false, false, false, false, false, false, false, false, false, false, false, false, false, false] rfl rfl (any_of HT_.out (by kernel_rfl)) (fun _ _ _ h => h) (Or.inl ⟨by rfl, ?_⟩) ?_ ?_
  rotate_left
  · intro w'
    go_simp
    with_reducible rfl
  rotate_left
  · simp only [Act.put, List.setIfInBounds_toArray, List.set_cons_zero, List.set_cons_succ, i64_w, i32_w]
    rfl
  refine pure_ (i := 3) (N := some 69) (v := ?_) (a' := ?_) #[true, true, true, true, false, false, false, false, false, false, false, false, false, false, false, false, false, false, false, false, false, false, false] rfl rfl (any_of HT_.out (by kernel_rfl)) (fun _ _ _ h => h) (Or.inl ⟨by rfl, ?_⟩) ?_ ?_
  rotate_left
  · intro w'
    go_simp
    with_reducible rfl
  rotate_left
  · simp only [Act.put, List.setIfInBounds_toArray, List.set_cons_zero, List.set_cons_succ, i64_w, i32_w]
    rfl
  refine pure_ (i := 4) (N := some 70) (v := ?_) (a' := ?_) #[true, true, true, true, true, false, false, false, false, false, false, false, false, false, false, false, false, false, false, false, false, false, false] rfl rfl (any_of HT_.out (by kernel_rfl)) (fun _ _ _ h => h) (Or.inl ⟨by rfl, ?_⟩) ?_ ?_
  rotate_left
  · intro w'
    go_simp
    with_reducible rfl
  rotate_left
  · simp only [Act.put, List.setIfInBounds_toArray, List.set_cons_zero, List.set_cons_succ, i64_w, i32_w]
    rfl
  refine pure_ (i := 5) (N := some 71) (v := ?_) (a' := ?_) #[true, true, true, true, true, true, false, false, false, false, false, false, false, false, false, false, false, false, false, false, false, false, false] rfl rfl (any_of HT_.out (by kernel_rfl)) (fun _ _ _ h => h) (Or.inl ⟨by rfl, ?_⟩) ?_ ?_
  rotate_left
  · intro w'
    go_simp
    with_reducible rfl
  rotate_left
  · simp only [Act.put, List.setIfInBounds_toArray, List.set_cons_zero, List.set_cons_succ, i64_w, i32_w]
    rfl
  refine take_ (i := 6) (N := some 72) (v := ?_) (a' := ?_) #[true, true, true, true, true, true, true, false, false, false, false, false, false, false, false, false, false, false, false, false, false, false, false] rfl rfl (take_ofW HT_.out HW_.out (by kernel_rfl)) (fun _ _ _ h => h) (Or.inl ⟨by rfl, ?_⟩) hHeld ?_ ?_
  rotate_left
  · rintro w' ⟨s0, s1⟩
    go_simp
    with_reducible rfl
  rotate_left
  · simp only [Act.put, List.setIfInBounds_toArray, List.set_cons_zero, List.set_cons_succ, i64_w, i32_w]
    rfl
  refine pure_ (i := 7) (N := some 73) (v := ?_) (a' := ?_) #[true, true, true, true, true, true, true, true, false, false, false, false, false, false, false, false, false, false, false, false, false, false, false] rfl rfl (any_of HT_.out (by kernel_rfl)) (fun _ _ _ h => h) (Or.inl ⟨by rfl, ?_⟩) ?_ ?_
  rotate_left
  · intro w'
    go_simp
    with_reducible rfl
  rotate_left
  · simp only [Act.put, List.setIfInBounds_toArray, List.set_cons_zero, List.set_cons_succ, i64_w, i32_w]
    rfl
  refine pure_ (i := 8) (N := some 74) (v := ?_) (a' := ?_) #[true, true, true, true, true, true, true, true, true, false, false, false, false, false, false, false, false, false, false, false, false, false, false] rfl rfl (any_of HT_.out (by kernel_rfl)) (fun _ _ _ h => h) (Or.inl ⟨by rfl, ?_⟩) ?_ ?_
  rotate_left
  · intro w'
    go_simp
    with_reducible rfl
  rotate_left
  · simp only [Act.put, List.setIfInBounds_toArray, List.set_cons_zero, List.set_cons_succ, i64_w, i32_w]
    rfl
  refine pure_ (i := 9) (N := some 75) (v := ?_) (a' := ?_) #[true, true, true, true, true, true, true, true, true, true, false, false, false, false, false, false, false, false, false, false, false, false, false] rfl rfl (any_of HT_.out (by kernel_rfl)) (fun _ _ _ h => h) (Or.inl ⟨by rfl, ?_⟩) ?_ ?_
  rotate_left
  · intro w'
    go_simp
    with_reducible rfl
  rotate_left
  · simp only [Act.put, List.setIfInBounds_toArray, List.set_cons_zero, List.set_cons_succ, i64_w, i32_w]
    rfl
  refine pure_ (i := 10) (N := some 76) (v := ?_) (a' := ?_) #[true, true, true, true, true, true, true, true, true, true, true, false, false, false, false, false, false, false, false, false, false, false, false] rfl rfl (any_of HT_.out (by kernel_rfl)) (fun _ _ _ h => h) (Or.inl ⟨by rfl, ?_⟩) ?_ ?_
  rotate_left
  · intro w'
    go_simp
    with_reducible rfl
  rotate_left
  · simp only [Act.put, List.setIfInBounds_toArray, List.set_cons_zero, List.set_cons_succ, i64_w, i32_w]
    rfl
  refine pure_ (i := 11) (N := some 77) (v := ?_) (a' := ?_) #[true, true, true, true, true, true, true, true, true, true, true, true, false, false, false, false, false, false, false, false, false, false, false] rfl rfl (any_of HT_.out (by kernel_rfl)) (fun _ _ _ h => h) (Or.inl ⟨by rfl, ?_⟩) ?_ ?_
  rotate_left
  · intro w'
    go_simp
    with_reducible rfl
  rotate_left
  · simp only [Act.put, List.setIfInBounds_toArray, List.set_cons_zero, List.set_cons_succ, i64_w, i32_w]
    rfl
  refine pure_ (i := 12) (N := some 78) (v := ?_) (a' := ?_) #[true, true, true, true, true, true, true, true, true, true, true, true, true, false, false, false, false, false, false, false, false, false, false] rfl rfl (any_of HT_.out (by kernel_rfl)) (fun _ _ _ h => h) (Or.inl ⟨by rfl, ?_⟩) ?_ ?_
  rotate_left
  · intro w'
    go_simp
    with_reducible rfl
  rotate_left
  · simp only [Act.put, List.setIfInBounds_toArray, List.set_cons_zero, List.set_cons_succ, i64_w, i32_w]
    rfl
  refine take_ (i := 13) (N := some 79) (v := ?_) (a' := ?_) #[true, true, true, true, true, true, true, true, true, true, true, true, true, true, false, false, false, false, false, false, false, false, false] rfl rfl (take_ofW HT_.out HW_.out (by kernel_rfl)) (fun _ _ _ h => h) (Or.inl ⟨by rfl, ?_⟩) hHeld ?_ ?_
  rotate_left
  · rintro w' ⟨s0, s1⟩
    go_simp
    with_reducible rfl
  rotate_left
  · simp only [Act.put, List.setIfInBounds_toArray, List.set_cons_zero, List.set_cons_succ, i64_w, i32_w]
    rfl
  refine pure_ (i := 14) (N := some 80) (v := ?_) (a' := ?_) #[true, true, true, true, true, true, true, true, true, true, true, true, true, true, true, false, false, false, false, false, false, false, false] rfl rfl (any_of HT_.out (by kernel_rfl)) (fun _ _ _ h => h) (Or.inl ⟨by rfl, ?_⟩) ?_ ?_
  rotate_left
  · intro w'
    go_simp
    with_reducible rfl
  rotate_left
  · simp only [Act.put, List.setIfInBounds_toArray, List.set_cons_zero, List.set_cons_succ, i64_w, i32_w]
    rfl
  refine pure_ (i := 15) (N := some 81) (v := ?_) (a' := ?_) #[true, true, true, true, true, true, true, true, true, true, true, true, true, true, true, true, false, false, false, false, false, false, false] rfl rfl (any_of HT_.out (by kernel_rfl)) (fun _ _ _ h => h) (Or.inl ⟨by rfl, ?_⟩) ?_ ?_
  rotate_left
  · intro w'
    go_simp
    with_reducible rfl
  rotate_left
  · simp only [Act.put, List.setIfInBounds_toArray, List.set_cons_zero, List.set_cons_succ, i64_w, i32_w]
    rfl
  refine pure_ (i := 16) (N := some 82) (v := ?_) (a' := ?_) #[true, true, true, true, true, true, true, true, true, true, true, true, true, true, true, true, true, false, false, false, false, false, false] rfl rfl (any_of HT_.out (by kernel_rfl)) (fun _ _ _ h => h) (Or.inl ⟨by rfl, ?_⟩) ?_ ?_
  rotate_left
  · intro w'
    go_simp
    with_reducible rfl
  rotate_left
  · simp only [Act.put, List.setIfInBounds_toArray, List.set_cons_zero, List.set_cons_succ, i64_w, i32_w]
    rfl
  refine one_ (i := 17) (N := some 83) #[true, true, true, true, true, true, true, true, true, true, true, true, true, true, true, true, true, true, false, false, false, false, false] rfl rfl (one_of HT_.out (by kernel_rfl)) (by decide) (fun K hK => ?_)
  refine goes_ Try.func32 (by kernel_rfl) rfl #[.agg #[.int .u32 r.f1, .int .u32 r.f2, .int .i64 0], .int .u32 a1, .int .u32 a2] (by rfl) rfl rfl (by simp only [List.map_toArray, List.map_cons, List.map_nil]; rfl) ?_
  refine (cell_Far.calls k r.f1 r.f2 0 a1 a2 d1 0 _ HDR.out).mono ?_
  rintro e w9 ⟨rfl, hb9⟩
  refine ⟨_, rfl, ?_⟩
  have q1 := (hb9.cell (World.block_lt_of_cell? _ _ hHeld.1)).trans hHeld.1
  have q2 := (hb9.cell (World.block_lt_of_cell? _ _ hHeld.2)).trans hHeld.2
  have B9 := Aside0.mk (below_call B8.out hb9)
  have HN9 := Aside0.mk (boxc_below HN8.out hb9)
  clear hb9
  refine hK.out _ _ ⟨q1, q2⟩ (fun hHeld => ?_)
  clear hK K
  refine norm_ (a' := ?_) ?_ ?_
  rotate_left
  · show Act.put _ (some 83) _ = _
    simp only [Act.put, List.setIfInBounds_toArray, List.set_cons_zero, List.set_cons_succ, i64_w, i32_w]
    rfl
  refine pure_ (i := 18) (N := some 65) (v := ?_) (a' := ?_) #[true, true, true, true, true, true, true, true, true, true, true, true, true, true, true, true, true, true, true, false, false, false, false] rfl rfl (any_of HT_.out (by kernel_rfl)) (fun _ _ _ h => h) (Or.inl ⟨by rfl, ?_⟩) ?_ ?_
  rotate_left
  · intro w'
    go_simp
    with_reducible rfl
  rotate_left
  · simp only [Act.put, List.setIfInBounds_toArray, List.set_cons_zero, List.set_cons_succ, i64_w, i32_w]
    rfl
  refine pure_ (i := 19) (N := some 84) (v := ?_) (a' := ?_) #[true, true, true, true, true, true, true, true, true, true, true, true, true, true, true, true, true, true, true, true, false, false, false] rfl rfl (any_of HT_.out (by kernel_rfl)) (fun _ _ _ h => h) (Or.inl ⟨by rfl, ?_⟩) ?_ ?_
  rotate_left
  · intro w'
    go_simp
    with_reducible rfl
  rotate_left
  · simp only [Act.put, List.setIfInBounds_toArray, List.set_cons_zero, List.set_cons_succ, i64_w, i32_w]
    rfl
  refine pure_ (i := 20) (N := some 85) (v := ?_) (a' := ?_) #[true, true, true, true, true, true, true, true, true, true, true, true, true, true, true, true, true, true, true, true, true, false, false] rfl rfl (any_of HT_.out (by kernel_rfl)) (fun _ _ _ h => h) (Or.inl ⟨by rfl, ?_⟩) ?_ ?_
  rotate_left
  · intro w'
    go_simp
    with_reducible rfl
  rotate_left
  · simp only [Act.put, List.setIfInBounds_toArray, List.set_cons_zero, List.set_cons_succ, i64_w, i32_w]
    rfl
  refine pure_ (i := 21) (N := some 14) (v := ?_) (a' := ?_) #[true, true, true, true, true, true, true, true, true, true, true, true, true, true, true, true, true, true, true, true, true, true, false] rfl rfl (any_of HT_.out (by kernel_rfl)) (fun _ _ _ h => h) (Or.inl ⟨by rfl, ?_⟩) ?_ ?_
  rotate_left
  · intro w'
    go_simp
    with_reducible rfl
  rotate_left
  · simp only [Act.put, List.setIfInBounds_toArray, List.set_cons_zero, List.set_cons_succ, i64_w, i32_w]
    rfl
  refine pure_ (i := 22) (N := some 15) (v := ?_) (a' := ?_) #[true, true, true, true, true, true, true, true, true, true, true, true, true, true, true, true, true, true, true, true, true, true, true] rfl rfl (any_of HT_.out (by kernel_rfl)) (fun _ _ _ h => h) (Or.inl ⟨by rfl, ?_⟩) ?_ ?_
  rotate_left
  · intro w'
    go_simp
    with_reducible rfl
  rotate_left
  · simp only [Act.put, List.setIfInBounds_toArray, List.set_cons_zero, List.set_cons_succ, i64_w, i32_w]
    rfl
  refine done_ (done_of HT_.out (by kernel_rfl)) ?_
  have n0 := boxc_cell HN9.out 0
  have n1 := boxc_cell HN9.out 1
  have n2 := boxc_cell HN9.out 2
  have n3 := boxc_cell HN9.out 3
  have n4 := boxc_cell HN9.out 4
  go_wp2_with fail
  refine (quad_Round.calls k x y v A3 c3 rs A4 c4 ks a1 a2 d1 b1 0 _ (Kd.C_below D3.out B9.out) G3.out (Kd.C_below D4.out B9.out) G4.out HBR.out).mono ?_
  rintro e w10 ⟨v10, rfl, hR10, hb10⟩
  obtain ⟨A10, c10, rfl⟩ := Kd.R_slice hR10
  have B10 := Aside0.mk (below_call B9.out hb10)
  have HN10 := Aside0.mk (boxc_below HN9.out hb10)
  clear hR10 hb10 n0 n1 n2 n3 n4 k0 k1 kw
  have hge : decide ((n : Int) + 1 ≤ (b1.length : Int)) = true := decide_eq_true (by have := HLB.out; omega)
  have h4 := HH4.out
  by_cases hz0 : d1 = 0
  · rw [if_pos hz0] at h4
    cases h4
    have hz1 : (d1 == 0) = true := beq_iff_eq.2 hz0
    clear hz0
    go_wp2
    go_ret
    exact ⟨rfl, below_call B3.out B10.out⟩
  · rw [if_neg hz0] at h4
    have hz1 : (d1 == 0) = false := beq_eq_false_iff_ne.2 hz0
    obtain ⟨⟨q1, q2⟩, hq, h5⟩ := Option.bind_eq_some_iff.1 h4
    clear h4
    dsimp only at h5
    by_cases hcc : q2 = 0 ∧ q1.length < p1.length
    case neg => rw [if_neg hcc] at h5; cases h5
    rw [if_pos hcc] at h5
    cases h5
    obtain ⟨rfl, hql⟩ := hcc
    have hlt : decide ((q1.length : Int) < (n : Int) + 1) = true := decide_eq_true (by omega)
    have HQ := Aside0.mk hq
    have hw1 : (d1 - 1) % 18446744073709551616 = d1 - 1 := Int.emod_eq_of_lt (by have := HD.out.1; omega) (by have := HD.out.2; omega)
    clear hq hql hz0
    have n0 := boxc_cell HN10.out 0
    have n1 := boxc_cell HN10.out 1
    have n2 := boxc_cell HN10.out 2
    have n3 := boxc_cell HN10.out 3
    have n4 := boxc_cell HN10.out 4
    go_wp2_with fail
    refine (quad_Round.calls k x y v A3 c3 rs A4 c4 ks a1 a2 (d1 - 1) q1 0 _ (Kd.C_below D3.out B10.out) G3.out (Kd.C_below D4.out B10.out) G4.out HQ.out).mono ?_
    rintro e w11 ⟨v11, rfl, hR11, hb11⟩
    obtain ⟨A11, c11, rfl⟩ := Kd.R_slice hR11
    have B11 := Aside0.mk (below_call B10.out hb11)
    clear hR11 hb11 n0 n1 n2 n3 n4 hw1
    go_wp2
    go_ret
    exact ⟨rfl, below_call B3.out B11.out⟩
end Go.Proofs.Ytojmfbdioaocpaa.P

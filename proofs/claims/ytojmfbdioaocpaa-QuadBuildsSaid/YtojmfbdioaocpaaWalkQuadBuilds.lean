/- Layer 9: the law QuadBuilds, walked: the tree of rows. -/
import Derived.Test.YtojmfbdioaocpaaLawC
import Derived.Test.YtojmfbdioaocpaaPx12
import Derived.Test.YtojmfbdioaocpaaPx13
import Derived.Test.YtojmfbdioaocpaaPx3
import Derived.Test.YtojmfbdioaocpaaPx801
namespace Go.Proofs.Ytojmfbdioaocpaa.P
open Go.RowKit Go.Proofs.YtojmfbdioaocpaaOwn Go.Proofs.YtojmfbdioaocpaaW.PrintWords Go.Proofs.YtojmfbdioaocpaaW.PrintLast Go.Proofs.YtojmfbdioaocpaaW.PrintMore
set_option linter.unusedVariables false
set_option linter.unusedSimpArgs false
attribute [local go_sem] max2_int min2_int max_two min_two
theorem ref_build_calls9 (k : Nat) (A0 : Option Addr) (c0 : Nat) (l0 : List S26) (q : Int × Int × Int × List S26 × List S33 × Int) (w : World) (hr0 : Kd.C k26 w A0 l0.length l0) (hc0 : l0.length ≤ c0) (h : sphragisref09_Build.f k l0 = some q) :
    Calls Try.prog 14 #[.slice A0 l0.length c0] w fun e w' => ∃ A3 c3 A4 c4, e = .returned (.tuple #[.agg #[.int .u32 q.1, .int .u32 q.2.1, .int .i64 q.2.2.1, .slice A3 q.2.2.2.1.length c3, .slice A4 q.2.2.2.2.1.length c4], .int .i64 q.2.2.2.2.2]) ∧
      (q.2.2.2.1.length ≤ c3 ∧ Kd.C k26 w' A3 q.2.2.2.1.length q.2.2.2.1 ∧ q.2.2.2.2.1.length ≤ c4 ∧ Kd.C k33 w' A4 q.2.2.2.2.1.length q.2.2.2.2.1) ∧ Below w.heap.size w w' := by
  refine (sphragisref09_Build.calls k A0 c0 l0 q.1 q.2.1 q.2.2.1 q.2.2.2.1 q.2.2.2.2.1 q.2.2.2.2.2 w hr0 hc0 h).mono ?_
  rintro e w' ⟨v3, v4, rfl, h3, h4, hb⟩
  obtain ⟨A3, c3, rfl⟩ := Kd.R_slice h3
  obtain ⟨A4, c4, rfl⟩ := Kd.R_slice h4
  exact ⟨A3, c3, A4, c4, rfl, ⟨(Kd.R_reads' h3).2.1, (Kd.R_reads' h3).2.2, (Kd.R_reads' h4).2.1, (Kd.R_reads' h4).2.2⟩, hb⟩
def builds_T5 : Bool × List (List Nat × List Nat) := (true, [([], []), ([0], [0]), ([1], [1]), ([2, 1, 1], [1, 2]), ([1], [1]), ([4, 3, 1], [1, 4]), ([3, 5, 1], [1, 3, 5]), ([1, 6], [1, 6]), ([7, 5], [7]), ([8], [8]), ([9, 8, 8], [8, 9]), ([8], [8]), ([11, 10, 8], [8, 11]), ([10, 12, 8], [8, 10, 12]), ([8, 13], [8, 13]), ([14, 12], [14]), ([15], [15]), ([15], [15]), ([16, 17, 15, 15], [15, 16, 17]), ([15, 18], [15, 18]), ([19, 18], [19]), ([20], [20]), ([20], [20]), ([21, 22, 20], [20, 21, 22]), ([20, 23], [20, 23]), ([24, 20, 0, 1, 2, 3, 4, 5, 6, 7, 8, 9, 10, 11, 12, 13, 14, 15, 16, 17, 18, 19, 20, 21, 22, 23, 24], [24])])
def builds_B5 : List Nat := [0, 1, 3, 7, 3, 31, 63, 127, 255, 511, 1023, 511, 4095, 8191, 16383, 32767, 65535, 65535, 262143, 524287, 1048575, 2097151, 2097151, 8388607, 16777215, 33554431]
theorem builds_tab5 : rtab .any (opsOf Try.f3 5) = builds_T5 := by kernel_rfl
theorem builds_bits5 : waitsOk builds_T5.2 builds_B5 = true := by kernel_rfl
def sphragislaw09_QuadBuilds.f (k : Nat) (l0 : List S26) (a1_0 : Int) (a1_1 : Int) (a1_2 : Int) (a1_3 : ByteArray) : Option Bool :=
  (sphragislaw09_shown.f k).bind fun hd => (sphragislaw09_few.f l0).bind fun l => (quad_Build.f k l).bind fun q => if hd = true ∧ l.length ≤ 60 then ((sphragisref09_Build.f k l).bind fun q2 => (quad_RightRow.f a1_0 a1_1 a1_2 a1_3).bind fun p1 => (sphragisref09_RightRow.f a1_0 a1_1 a1_2 a1_3).bind fun p2 => (quad_Right.f k l).bind fun u1 => (sphragisref09_Right.f k l).bind fun u2 => (sphragisref09_SameNode.f k q.1 q.2.1 q.2.2.1 q.2.2.2.1 q.2.2.2.2.1 q2.1 q2.2.1 q2.2.2.1 q2.2.2.2.1 q2.2.2.2.2.1).bind fun s => (if p1 = p2 ∧ u1 = u2 ∧ s = true ∧ q.2.2.2.2.2 = q2.2.2.2.2.2 then some true else none)) else none
set_option maxRecDepth 100000 in
set_option maxHeartbeats 4000000 in
theorem sphragislaw09_QuadBuilds.calls (k : Nat) (A0 : Option Addr) (c0 : Nat) (l0 : List S26) (a1_0 : Int) (a1_1 : Int) (a1_2 : Int) (a1_3 : ByteArray) (r : Bool) (w : World) (hr0 : Kd.C k26 w A0 l0.length l0) (hc0 : l0.length ≤ c0) (h : sphragislaw09_QuadBuilds.f k l0 a1_0 a1_1 a1_2 a1_3 = some r) :
    Calls Try.prog 3 #[.slice A0 l0.length c0, .agg #[.int .u64 a1_0, .int .u32 a1_1, .int .u32 a1_2, .string a1_3]] w fun e w' => e = .returned (.bool r) ∧ Below w.heap.size w w' := by
  unfold sphragislaw09_QuadBuilds.f at h
  obtain ⟨hd, hs, h1⟩ := Option.bind_eq_some_iff.1 h
  obtain ⟨l, hf, h2⟩ := Option.bind_eq_some_iff.1 h1
  obtain ⟨⟨x, y, v, rs, ks, er⟩, hb, h3⟩ := Option.bind_eq_some_iff.1 h2
  clear h h1 h2
  have h := h3
  clear h3
  by_cases hc : hd = true ∧ l.length ≤ 60
  case neg => rw [if_neg hc] at h; cases h
  rw [if_pos hc] at h
  obtain ⟨rfl, hl60⟩ := hc
  try dsimp only at h
  have HS := Aside0.mk hs
  have HF := Aside0.mk hf
  have HB := Aside0.mk hb
  have HR := Aside0.mk hr0
  have HC := Aside0.mk hc0
  clear hs hf hb hr0 hc0
  have X0 := Aside0.mk (boxc_new w #[.int .u64 a1_0, .int .u32 a1_1, .int .u32 a1_2, .string a1_3] 26)
  go_enter Try.func3, Try.ntmps3
  go_wp2_with fail
  refine (sphragislaw09_shown.calls k true _ HS.out).mono ?_
  rintro e w1 ⟨rfl, hb1⟩
  have B1 := Aside0.mk (below_call (below_alloc' (Below.refl w.heap.size w) (.cells #[.int .u64 a1_0, .int .u32 a1_1, .int .u32 a1_2, .string a1_3] 26)) hb1)
  go_wp2_with fail
  refine (few_calls9 A0 c0 l0 l _ (Kd.C_below HR.out (B1.out.mono (Nat.le_refl _))) HC.out HF.out).mono ?_
  rintro e w2 ⟨A, c, rfl, hlc, hC, hb2⟩
  have B2 := Aside0.mk (below_call B1.out hb2)
  have HL := Aside0.mk hC
  have HLC := Aside0.mk hlc
  have X2 := Aside0.mk (boxc_below (boxc_below X0.out hb1) hb2)
  clear hb1 hb2 hC hlc
  go_wp2_with fail
  refine (build_calls9 k A c l _ _ HL.out HLC.out HB.out).mono ?_
  rintro e w3 ⟨A3, c3, A4, c4, rfl, ⟨g3, C3, g4, C4⟩, hb3⟩
  dsimp only at g3 C3 g4 C4 ⊢
  have B3 := Aside0.mk (below_call B2.out hb3)
  have G3 := Aside0.mk g3
  have G4 := Aside0.mk g4
  have D3 := Aside0.mk C3
  have D4 := Aside0.mk C4
  have L3 := Aside0.mk (Kd.C_below HL.out (hb3.mono (Nat.le_refl _)))
  have X3 := Aside0.mk (boxc_below X2.out hb3)
  clear hb3 g3 g4 C3 C4
  have hu := Try.underlying33
  obtain ⟨⟨x2, y2, v2, rs2, ks2, er2⟩, hq2, h1⟩ := Option.bind_eq_some_iff.1 h
  obtain ⟨p1, hp1, h2⟩ := Option.bind_eq_some_iff.1 h1
  obtain ⟨p2, hp2, h3⟩ := Option.bind_eq_some_iff.1 h2
  obtain ⟨u1, hu1, h4⟩ := Option.bind_eq_some_iff.1 h3
  obtain ⟨u2, hu2, h5⟩ := Option.bind_eq_some_iff.1 h4
  obtain ⟨s, hs, h6⟩ := Option.bind_eq_some_iff.1 h5
  clear h h1 h2 h3 h4 h5
  dsimp only at hs h6
  by_cases hmm : p1 = p2 ∧ u1 = u2 ∧ s = true ∧ er = er2
  case neg => rw [if_neg hmm] at h6; cases h6
  rw [if_pos hmm] at h6
  cases h6
  obtain ⟨rfl, rfl, rfl, rfl⟩ := hmm
  have H0 := Aside0.mk hq2
  have H1 := Aside0.mk hp1
  have H2 := Aside0.mk hp2
  have H3 := Aside0.mk hu1
  have H4 := Aside0.mk hu2
  have H5 := Aside0.mk hs
  clear hq2 hp1 hp2 hu1 hu2 hs
  go_wp2_with fail
  refine (ref_build_calls9 k A c l _ _ (Kd.C_alloc L3.out _) HLC.out H0.out).mono ?_
  rintro e w5 ⟨A5, c5, A6, c6, rfl, ⟨g5, C5, g6, C6⟩, hb5⟩
  dsimp only at g5 C5 g6 C6 ⊢
  have B5 := Aside0.mk (below_call (below_alloc' B3.out (.cells #[.int .u32 x, .int .u32 y, .int .i64 v, .slice A3 rs.length c3, .slice A4 ks.length c4] 33)) hb5)
  have W35 : Aside0 (Below w3.heap.size w3 w5) := ⟨(below_alloc' (Below.refl _ w3) (.cells #[.int .u32 x, .int .u32 y, .int .i64 v, .slice A3 rs.length c3, .slice A4 ks.length c4] 33)).trans (hb5.mono (by simp))⟩
  have G5 := Aside0.mk g5
  have G6 := Aside0.mk g6
  have D5 := Aside0.mk C5
  have D6 := Aside0.mk C6
  have D35 := Aside0.mk (Kd.C_below D3.out W35.out)
  have D45 := Aside0.mk (Kd.C_below D4.out W35.out)
  have L5 := Aside0.mk (Kd.C_below L3.out W35.out)
  have X5 := Aside0.mk (boxc_below X3.out W35.out)
  have HN5 := Aside0.mk (boxc_below (boxc_new w3 #[.int .u32 x, .int .u32 y, .int .i64 v, .slice A3 rs.length c3, .slice A4 ks.length c4] 33) hb5)
  clear hb5 g5 g6 C5 C6
  go_wp2_with fail
  have BB := Aside0.mk (below_drew1 (below_alloc' (Below.refl _ w5) (.cells #[.int .u32 x2, .int .u32 y2, .int .i64 v2, .slice A5 rs2.length c5, .slice A6 ks2.length c6] 33)))
  have XX := Aside0.mk (blk_drew (boxc_alloc X5.out (.cells #[.int .u32 x2, .int .u32 y2, .int .i64 v2, .slice A5 rs2.length c5, .slice A6 ks2.length c6] 33)))
  have HN := Aside0.mk (blk_drew (boxc_alloc HN5.out (.cells #[.int .u32 x2, .int .u32 y2, .int .i64 v2, .slice A5 rs2.length c5, .slice A6 ks2.length c6] 33)))
  have HM := Aside0.mk (blk_drew (boxc_new w5 #[.int .u32 x2, .int .u32 y2, .int .i64 v2, .slice A5 rs2.length c5, .slice A6 ks2.length c6] 33))
  refine start_ (n := 26) (S := fun w' => w'.cell? ⟨w.heap.size, 0, none⟩ = some (.int .u64 a1_0) ∧ w'.cell? ⟨w.heap.size, 1, none⟩ = some (.int .u32 a1_1) ∧ w'.cell? ⟨w.heap.size, 2, none⟩ = some (.int .u32 a1_2) ∧ w'.cell? ⟨w.heap.size, 3, none⟩ = some (.string a1_3) ∧ w'.cell? ⟨w3.heap.size, 0, none⟩ = some (.int .u32 x) ∧ w'.cell? ⟨w3.heap.size, 1, none⟩ = some (.int .u32 y) ∧ w'.cell? ⟨w3.heap.size, 2, none⟩ = some (.int .i64 v) ∧ w'.cell? ⟨w3.heap.size, 3, none⟩ = some (.slice A3 rs.length c3) ∧ w'.cell? ⟨w3.heap.size, 4, none⟩ = some (.slice A4 ks.length c4) ∧ w'.cell? ⟨w5.heap.size, 0, none⟩ = some (.int .u32 x2) ∧ w'.cell? ⟨w5.heap.size, 1, none⟩ = some (.int .u32 y2) ∧ w'.cell? ⟨w5.heap.size, 2, none⟩ = some (.int .i64 v2) ∧ w'.cell? ⟨w5.heap.size, 3, none⟩ = some (.slice A5 rs2.length c5) ∧ w'.cell? ⟨w5.heap.size, 4, none⟩ = some (.slice A6 ks2.length c6)) (ds := []) #[false, false, false, false, false, false, false, false, false, false, false, false, false, false, false, false, false, false, false, false, false, false, false, false, false, false] (by kernel_rfl) rfl rfl ⟨(blk_cell XX.out 0).trans rfl, (blk_cell XX.out 1).trans rfl, (blk_cell XX.out 2).trans rfl, (blk_cell XX.out 3).trans rfl, (blk_cell HN.out 0).trans rfl, (blk_cell HN.out 1).trans rfl, (blk_cell HN.out 2).trans rfl, (blk_cell HN.out 3).trans rfl, (blk_cell HN.out 4).trans rfl, (blk_cell HM.out 0).trans rfl, (blk_cell HM.out 1).trans rfl, (blk_cell HM.out 2).trans rfl, (blk_cell HM.out 3).trans rfl, (blk_cell HM.out 4).trans rfl⟩ (fun hHeld => ?_); refine with_tabW builds_tab5 builds_bits5 (fun HT_ HW_ => ?_)
  generalize (w5.alloc (.cells #[.int .u32 x2, .int .u32 y2, .int .i64 v2, .slice A5 rs2.length c5, .slice A6 ks2.length c6] 33)).drew = w9 at BB XX HN HM hHeld ⊢
  refine pure_ (i := 0) (N := some 23) (v := ?_) (a' := ?_) #[true, false, false, false, false, false, false, false, false, false, false, false, false, false, false, false, false, false, false, false, false, false, false, false, false, false] rfl rfl (any_of HT_.out (by kernel_rfl)) (fun _ _ _ h => h) (Or.inl ⟨by rfl, ?_⟩) ?_ ?_
  rotate_left
  · intro w'
    go_simp
    with_reducible rfl
  rotate_left
  · simp only [Act.put, List.setIfInBounds_toArray, List.set_cons_zero, List.set_cons_succ, i64_w, i32_w]
    rfl
  refine pure_ (i := 1) (N := some 24) (v := ?_) (a' := ?_) #[true, true, false, false, false, false, false, false, false, false, false, false, false, false, false, false, false, false, false, false, false, false, false, false, false, false] rfl rfl (any_of HT_.out (by kernel_rfl)) (fun _ _ _ h => h) (Or.inl ⟨by rfl, ?_⟩) ?_ ?_
  rotate_left
  · intro w'
    go_simp
    with_reducible rfl
  rotate_left
  · simp only [Act.put, List.setIfInBounds_toArray, List.set_cons_zero, List.set_cons_succ, i64_w, i32_w]
    rfl
  refine take_ (i := 2) (N := some 25) (v := ?_) (a' := ?_) #[true, true, true, false, false, false, false, false, false, false, false, false, false, false, false, false, false, false, false, false, false, false, false, false, false, false] rfl rfl (take_ofW HT_.out HW_.out (by kernel_rfl)) (fun _ _ _ h => h) (Or.inl ⟨by rfl, ?_⟩) hHeld ?_ ?_
  rotate_left
  · rintro w' ⟨s0, s1, s2, s3, s4, s5, s6, s7, s8, s9, s10, s11, s12, s13⟩
    go_simp
    with_reducible rfl
  rotate_left
  · simp only [Act.put, List.setIfInBounds_toArray, List.set_cons_zero, List.set_cons_succ, i64_w, i32_w]
    rfl
  refine take_ (i := 4) (N := some 27) (v := ?_) (a' := ?_) #[true, true, true, false, true, false, false, false, false, false, false, false, false, false, false, false, false, false, false, false, false, false, false, false, false, false] rfl rfl (take_ofW HT_.out HW_.out (by kernel_rfl)) (fun _ _ _ h => h) (Or.inl ⟨by rfl, ?_⟩) hHeld ?_ ?_
  rotate_left
  · rintro w' ⟨s0, s1, s2, s3, s4, s5, s6, s7, s8, s9, s10, s11, s12, s13⟩
    go_simp
    with_reducible rfl
  rotate_left
  · simp only [Act.put, List.setIfInBounds_toArray, List.set_cons_zero, List.set_cons_succ, i64_w, i32_w]
    rfl
  refine one_ (i := 3) (N := some 26) #[true, true, true, true, true, false, false, false, false, false, false, false, false, false, false, false, false, false, false, false, false, false, false, false, false, false] rfl rfl (one_of HT_.out (by kernel_rfl)) (by decide) (fun K hK => ?_)
  refine goes_ Try.func15 (by kernel_rfl) rfl #[.agg #[.int .u64 a1_0, .int .u32 a1_1, .int .u32 a1_2, .string a1_3]] (by rfl) rfl rfl (by simp only [List.map_toArray, List.map_cons, List.map_nil]; rfl) ?_
  refine (quad_RightRow.calls a1_0 a1_1 a1_2 a1_3 p1 _ H1.out).mono ?_
  rintro e v10 ⟨rfl, hb⟩
  refine ⟨_, rfl, ?_⟩
  have t0_ := Aside0.mk (below_call BB.out hb)
  have t1_ := Aside0.mk (boxc_below XX.out hb)
  have t2_ := Aside0.mk (boxc_below HN.out hb)
  have t3_ := Aside0.mk (boxc_below HM.out hb)
  clear BB XX HN HM hb
  have BB := t0_
  have XX := t1_
  have HN := t2_
  have HM := t3_
  clear t0_ t1_ t2_ t3_
  refine hK.out _ _ ⟨(blk_cell XX.out 0).trans rfl, (blk_cell XX.out 1).trans rfl, (blk_cell XX.out 2).trans rfl, (blk_cell XX.out 3).trans rfl, (blk_cell HN.out 0).trans rfl, (blk_cell HN.out 1).trans rfl, (blk_cell HN.out 2).trans rfl, (blk_cell HN.out 3).trans rfl, (blk_cell HN.out 4).trans rfl, (blk_cell HM.out 0).trans rfl, (blk_cell HM.out 1).trans rfl, (blk_cell HM.out 2).trans rfl, (blk_cell HM.out 3).trans rfl, (blk_cell HM.out 4).trans rfl⟩ (fun hHeld => ?_)
  clear hK K
  refine norm_ (a' := ?_) ?_ ?_
  rotate_left
  · show Act.put _ (some 26) _ = _
    simp only [Act.put, List.setIfInBounds_toArray, List.set_cons_zero, List.set_cons_succ, i64_w, i32_w]
    rfl
  refine one_ (i := 5) (N := some 28) #[true, true, true, true, true, true, false, false, false, false, false, false, false, false, false, false, false, false, false, false, false, false, false, false, false, false] rfl rfl (one_of HT_.out (by kernel_rfl)) (by decide) (fun K hK => ?_)
  refine goes_ Try.func16 (by kernel_rfl) rfl #[.agg #[.int .u64 a1_0, .int .u32 a1_1, .int .u32 a1_2, .string a1_3]] (by rfl) rfl rfl (by simp only [List.map_toArray, List.map_cons, List.map_nil]; rfl) ?_
  refine (sphragisref09_RightRow.calls a1_0 a1_1 a1_2 a1_3 p1 _ H2.out).mono ?_
  rintro e v11 ⟨rfl, hb⟩
  refine ⟨_, rfl, ?_⟩
  have t0_ := Aside0.mk (below_call BB.out hb)
  have t1_ := Aside0.mk (boxc_below XX.out hb)
  have t2_ := Aside0.mk (boxc_below HN.out hb)
  have t3_ := Aside0.mk (boxc_below HM.out hb)
  clear BB XX HN HM hb
  have BB := t0_
  have XX := t1_
  have HN := t2_
  have HM := t3_
  clear t0_ t1_ t2_ t3_
  refine hK.out _ _ ⟨(blk_cell XX.out 0).trans rfl, (blk_cell XX.out 1).trans rfl, (blk_cell XX.out 2).trans rfl, (blk_cell XX.out 3).trans rfl, (blk_cell HN.out 0).trans rfl, (blk_cell HN.out 1).trans rfl, (blk_cell HN.out 2).trans rfl, (blk_cell HN.out 3).trans rfl, (blk_cell HN.out 4).trans rfl, (blk_cell HM.out 0).trans rfl, (blk_cell HM.out 1).trans rfl, (blk_cell HM.out 2).trans rfl, (blk_cell HM.out 3).trans rfl, (blk_cell HM.out 4).trans rfl⟩ (fun hHeld => ?_)
  clear hK K
  refine norm_ (a' := ?_) ?_ ?_
  rotate_left
  · show Act.put _ (some 28) _ = _
    simp only [Act.put, List.setIfInBounds_toArray, List.set_cons_zero, List.set_cons_succ, i64_w, i32_w]
    rfl
  refine pure_ (i := 6) (N := some 29) (v := ?_) (a' := ?_) #[true, true, true, true, true, true, true, false, false, false, false, false, false, false, false, false, false, false, false, false, false, false, false, false, false, false] rfl rfl (any_of HT_.out (by kernel_rfl)) (fun _ _ _ h => h) (Or.inl ⟨by rfl, ?_⟩) ?_ ?_
  rotate_left
  · intro w'
    go_simp
    with_reducible rfl
  rotate_left
  · simp only [Act.put, List.setIfInBounds_toArray, List.set_cons_zero, List.set_cons_succ, i64_w, i32_w]
    rfl
  refine pure_ (i := 7) (N := some 30) (v := ?_) (a' := ?_) #[true, true, true, true, true, true, true, true, false, false, false, false, false, false, false, false, false, false, false, false, false, false, false, false, false, false] rfl rfl (any_of HT_.out (by kernel_rfl)) (fun _ _ _ h => h) (Or.inl ⟨by rfl, ?_⟩) ?_ ?_
  rotate_left
  · intro w'
    go_simp
    with_reducible rfl
  rotate_left
  · simp only [Act.put, List.setIfInBounds_toArray, List.set_cons_zero, List.set_cons_succ, i64_w, i32_w]
    rfl
  refine pure_ (i := 8) (N := some 31) (v := ?_) (a' := ?_) #[true, true, true, true, true, true, true, true, true, false, false, false, false, false, false, false, false, false, false, false, false, false, false, false, false, false] rfl rfl (any_of HT_.out (by kernel_rfl)) (fun _ _ _ h => h) (Or.inl ⟨by rfl, ?_⟩) ?_ ?_
  rotate_left
  · intro w'
    go_simp
    with_reducible rfl
  rotate_left
  · simp only [Act.put, List.setIfInBounds_toArray, List.set_cons_zero, List.set_cons_succ, i64_w, i32_w]
    rfl
  refine pure_ (i := 9) (N := some 32) (v := ?_) (a' := ?_) #[true, true, true, true, true, true, true, true, true, true, false, false, false, false, false, false, false, false, false, false, false, false, false, false, false, false] rfl rfl (any_of HT_.out (by kernel_rfl)) (fun _ _ _ h => h) (Or.inl ⟨by rfl, ?_⟩) ?_ ?_
  rotate_left
  · intro w'
    go_simp
    with_reducible rfl
  rotate_left
  · simp only [Act.put, List.setIfInBounds_toArray, List.set_cons_zero, List.set_cons_succ, i64_w, i32_w]
    rfl
  refine pure_ (i := 11) (N := some 34) (v := ?_) (a' := ?_) #[true, true, true, true, true, true, true, true, true, true, false, true, false, false, false, false, false, false, false, false, false, false, false, false, false, false] rfl rfl (any_of HT_.out (by kernel_rfl)) (fun _ _ _ h => h) (Or.inl ⟨by rfl, ?_⟩) ?_ ?_
  rotate_left
  · intro w'
    go_simp
    with_reducible rfl
  rotate_left
  · simp only [Act.put, List.setIfInBounds_toArray, List.set_cons_zero, List.set_cons_succ, i64_w, i32_w]
    rfl
  refine one_ (i := 10) (N := some 33) #[true, true, true, true, true, true, true, true, true, true, true, true, false, false, false, false, false, false, false, false, false, false, false, false, false, false] rfl rfl (one_of HT_.out (by kernel_rfl)) (by decide) (fun K hK => ?_)
  refine goes_ Try.func17 (by kernel_rfl) rfl #[.slice A l.length c] (by rfl) rfl rfl (by simp only [List.map_toArray, List.map_cons, List.map_nil]; rfl) ?_
  refine (quad_Right.calls k A c l u1 _ (Kd.C_below L5.out BB.out) HLC.out H3.out).mono ?_
  rintro e v12 ⟨rfl, hb⟩
  refine ⟨_, rfl, ?_⟩
  have t0_ := Aside0.mk (below_call BB.out hb)
  have t1_ := Aside0.mk (boxc_below XX.out hb)
  have t2_ := Aside0.mk (boxc_below HN.out hb)
  have t3_ := Aside0.mk (boxc_below HM.out hb)
  clear BB XX HN HM hb
  have BB := t0_
  have XX := t1_
  have HN := t2_
  have HM := t3_
  clear t0_ t1_ t2_ t3_
  refine hK.out _ _ ⟨(blk_cell XX.out 0).trans rfl, (blk_cell XX.out 1).trans rfl, (blk_cell XX.out 2).trans rfl, (blk_cell XX.out 3).trans rfl, (blk_cell HN.out 0).trans rfl, (blk_cell HN.out 1).trans rfl, (blk_cell HN.out 2).trans rfl, (blk_cell HN.out 3).trans rfl, (blk_cell HN.out 4).trans rfl, (blk_cell HM.out 0).trans rfl, (blk_cell HM.out 1).trans rfl, (blk_cell HM.out 2).trans rfl, (blk_cell HM.out 3).trans rfl, (blk_cell HM.out 4).trans rfl⟩ (fun hHeld => ?_)
  clear hK K
  refine norm_ (a' := ?_) ?_ ?_
  rotate_left
  · show Act.put _ (some 33) _ = _
    simp only [Act.put, List.setIfInBounds_toArray, List.set_cons_zero, List.set_cons_succ, i64_w, i32_w]
    rfl
  refine one_ (i := 12) (N := some 35) #[true, true, true, true, true, true, true, true, true, true, true, true, true, false, false, false, false, false, false, false, false, false, false, false, false, false] rfl rfl (one_of HT_.out (by kernel_rfl)) (by decide) (fun K hK => ?_)
  refine goes_ Try.func18 (by kernel_rfl) rfl #[.slice A l.length c] (by rfl) rfl rfl (by simp only [List.map_toArray, List.map_cons, List.map_nil]; rfl) ?_
  refine (sphragisref09_Right.calls k A c l u1 _ (Kd.C_below L5.out BB.out) HLC.out H4.out).mono ?_
  rintro e v13 ⟨rfl, hb⟩
  refine ⟨_, rfl, ?_⟩
  have t0_ := Aside0.mk (below_call BB.out hb)
  have t1_ := Aside0.mk (boxc_below XX.out hb)
  have t2_ := Aside0.mk (boxc_below HN.out hb)
  have t3_ := Aside0.mk (boxc_below HM.out hb)
  clear BB XX HN HM hb
  have BB := t0_
  have XX := t1_
  have HN := t2_
  have HM := t3_
  clear t0_ t1_ t2_ t3_
  refine hK.out _ _ ⟨(blk_cell XX.out 0).trans rfl, (blk_cell XX.out 1).trans rfl, (blk_cell XX.out 2).trans rfl, (blk_cell XX.out 3).trans rfl, (blk_cell HN.out 0).trans rfl, (blk_cell HN.out 1).trans rfl, (blk_cell HN.out 2).trans rfl, (blk_cell HN.out 3).trans rfl, (blk_cell HN.out 4).trans rfl, (blk_cell HM.out 0).trans rfl, (blk_cell HM.out 1).trans rfl, (blk_cell HM.out 2).trans rfl, (blk_cell HM.out 3).trans rfl, (blk_cell HM.out 4).trans rfl⟩ (fun hHeld => ?_)
  clear hK K
  refine norm_ (a' := ?_) ?_ ?_
  rotate_left
  · show Act.put _ (some 35) _ = _
    simp only [Act.put, List.setIfInBounds_toArray, List.set_cons_zero, List.set_cons_succ, i64_w, i32_w]
    rfl
  refine pure_ (i := 13) (N := some 36) (v := ?_) (a' := ?_) #[true, true, true, true, true, true, true, true, true, true, true, true, true, true, false, false, false, false, false, false, false, false, false, false, false, false] rfl rfl (any_of HT_.out (by kernel_rfl)) (fun _ _ _ h => h) (Or.inl ⟨by rfl, ?_⟩) ?_ ?_
  rotate_left
  · intro w'
    go_simp
    with_reducible rfl
  rotate_left
  · simp only [Act.put, List.setIfInBounds_toArray, List.set_cons_zero, List.set_cons_succ, i64_w, i32_w]
    rfl
  refine pure_ (i := 14) (N := some 37) (v := ?_) (a' := ?_) #[true, true, true, true, true, true, true, true, true, true, true, true, true, true, true, false, false, false, false, false, false, false, false, false, false, false] rfl rfl (any_of HT_.out (by kernel_rfl)) (fun _ _ _ h => h) (Or.inl ⟨by rfl, ?_⟩) ?_ ?_
  rotate_left
  · intro w'
    go_simp
    with_reducible rfl
  rotate_left
  · simp only [Act.put, List.setIfInBounds_toArray, List.set_cons_zero, List.set_cons_succ, i64_w, i32_w]
    rfl
  refine pure_ (i := 15) (N := some 38) (v := ?_) (a' := ?_) #[true, true, true, true, true, true, true, true, true, true, true, true, true, true, true, true, false, false, false, false, false, false, false, false, false, false] rfl rfl (any_of HT_.out (by kernel_rfl)) (fun _ _ _ h => h) (Or.inl ⟨by rfl, ?_⟩) ?_ ?_
  rotate_left
  · intro w'
    go_simp
    with_reducible rfl
  rotate_left
  · simp only [Act.put, List.setIfInBounds_toArray, List.set_cons_zero, List.set_cons_succ, i64_w, i32_w]
    rfl
  refine take_ (i := 16) (N := some 39) (v := ?_) (a' := ?_) #[true, true, true, true, true, true, true, true, true, true, true, true, true, true, true, true, true, false, false, false, false, false, false, false, false, false] rfl rfl (take_ofW HT_.out HW_.out (by kernel_rfl)) (fun _ _ _ h => h) (Or.inl ⟨by rfl, ?_⟩) hHeld ?_ ?_
  rotate_left
  · rintro w' ⟨s0, s1, s2, s3, s4, s5, s6, s7, s8, s9, s10, s11, s12, s13⟩
    go_simp
    with_reducible rfl
  rotate_left
  · simp only [Act.put, List.setIfInBounds_toArray, List.set_cons_zero, List.set_cons_succ, i64_w, i32_w]
    rfl
  refine take_ (i := 17) (N := some 40) (v := ?_) (a' := ?_) #[true, true, true, true, true, true, true, true, true, true, true, true, true, true, true, true, true, true, false, false, false, false, false, false, false, false] rfl rfl (take_ofW HT_.out HW_.out (by kernel_rfl)) (fun _ _ _ h => h) (Or.inl ⟨by rfl, ?_⟩) hHeld ?_ ?_
  rotate_left
  · rintro w' ⟨s0, s1, s2, s3, s4, s5, s6, s7, s8, s9, s10, s11, s12, s13⟩
    go_simp
    with_reducible rfl
  rotate_left
  · simp only [Act.put, List.setIfInBounds_toArray, List.set_cons_zero, List.set_cons_succ, i64_w, i32_w]
    rfl
  refine one_ (i := 18) (N := some 41) #[true, true, true, true, true, true, true, true, true, true, true, true, true, true, true, true, true, true, true, false, false, false, false, false, false, false] rfl rfl (one_of HT_.out (by kernel_rfl)) (by decide) (fun K hK => ?_)
  refine goes_ Try.func19 (by kernel_rfl) rfl #[.agg #[.int .u32 x, .int .u32 y, .int .i64 v, .slice A3 rs.length c3, .slice A4 ks.length c4], .agg #[.int .u32 x2, .int .u32 y2, .int .i64 v2, .slice A5 rs2.length c5, .slice A6 ks2.length c6]] (by rfl) rfl rfl (by simp only [List.map_toArray, List.map_cons, List.map_nil]; rfl) ?_
  refine (sphragisref09_SameNode.calls k x y v A3 c3 rs A4 c4 ks x2 y2 v2 A5 c5 rs2 A6 c6 ks2 true _ (Kd.C_below D35.out BB.out) G3.out (Kd.C_below D45.out BB.out) G4.out (Kd.C_below D5.out BB.out) G5.out (Kd.C_below D6.out BB.out) G6.out H5.out).mono ?_
  rintro e v14 ⟨rfl, hb⟩
  refine ⟨_, rfl, ?_⟩
  have t0_ := Aside0.mk (below_call BB.out hb)
  have t1_ := Aside0.mk (boxc_below XX.out hb)
  have t2_ := Aside0.mk (boxc_below HN.out hb)
  have t3_ := Aside0.mk (boxc_below HM.out hb)
  clear BB XX HN HM hb
  have BB := t0_
  have XX := t1_
  have HN := t2_
  have HM := t3_
  clear t0_ t1_ t2_ t3_
  refine hK.out _ _ ⟨(blk_cell XX.out 0).trans rfl, (blk_cell XX.out 1).trans rfl, (blk_cell XX.out 2).trans rfl, (blk_cell XX.out 3).trans rfl, (blk_cell HN.out 0).trans rfl, (blk_cell HN.out 1).trans rfl, (blk_cell HN.out 2).trans rfl, (blk_cell HN.out 3).trans rfl, (blk_cell HN.out 4).trans rfl, (blk_cell HM.out 0).trans rfl, (blk_cell HM.out 1).trans rfl, (blk_cell HM.out 2).trans rfl, (blk_cell HM.out 3).trans rfl, (blk_cell HM.out 4).trans rfl⟩ (fun hHeld => ?_)
  clear hK K
  refine norm_ (a' := ?_) ?_ ?_
  rotate_left
  · show Act.put _ (some 41) _ = _
    simp only [Act.put, List.setIfInBounds_toArray, List.set_cons_zero, List.set_cons_succ, i64_w, i32_w]
    rfl
  refine pure_ (i := 19) (N := some 42) (v := ?_) (a' := ?_) #[true, true, true, true, true, true, true, true, true, true, true, true, true, true, true, true, true, true, true, true, false, false, false, false, false, false] rfl rfl (any_of HT_.out (by kernel_rfl)) (fun _ _ _ h => h) (Or.inl ⟨by rfl, ?_⟩) ?_ ?_
  rotate_left
  · intro w'
    go_simp
    with_reducible rfl
  rotate_left
  · simp only [Act.put, List.setIfInBounds_toArray, List.set_cons_zero, List.set_cons_succ, i64_w, i32_w]
    rfl
  refine pure_ (i := 20) (N := some 43) (v := ?_) (a' := ?_) #[true, true, true, true, true, true, true, true, true, true, true, true, true, true, true, true, true, true, true, true, true, false, false, false, false, false] rfl rfl (any_of HT_.out (by kernel_rfl)) (fun _ _ _ h => h) (Or.inl ⟨by rfl, ?_⟩) ?_ ?_
  rotate_left
  · intro w'
    go_simp
    with_reducible rfl
  rotate_left
  · simp only [Act.put, List.setIfInBounds_toArray, List.set_cons_zero, List.set_cons_succ, i64_w, i32_w]
    rfl
  refine pure_ (i := 21) (N := some 44) (v := ?_) (a' := ?_) #[true, true, true, true, true, true, true, true, true, true, true, true, true, true, true, true, true, true, true, true, true, true, false, false, false, false] rfl rfl (any_of HT_.out (by kernel_rfl)) (fun _ _ _ h => h) (Or.inl ⟨by rfl, ?_⟩) ?_ ?_
  rotate_left
  · intro w'
    go_simp
    with_reducible rfl
  rotate_left
  · simp only [Act.put, List.setIfInBounds_toArray, List.set_cons_zero, List.set_cons_succ, i64_w, i32_w]
    rfl
  refine pure_ (i := 22) (N := some 45) (v := ?_) (a' := ?_) #[true, true, true, true, true, true, true, true, true, true, true, true, true, true, true, true, true, true, true, true, true, true, true, false, false, false] rfl rfl (any_of HT_.out (by kernel_rfl)) (fun _ _ _ h => h) (Or.inl ⟨by rfl, ?_⟩) ?_ ?_
  rotate_left
  · intro w'
    go_simp
    with_reducible rfl
  rotate_left
  · simp only [Act.put, List.setIfInBounds_toArray, List.set_cons_zero, List.set_cons_succ, i64_w, i32_w]
    rfl
  refine pure_ (i := 23) (N := some 46) (v := ?_) (a' := ?_) #[true, true, true, true, true, true, true, true, true, true, true, true, true, true, true, true, true, true, true, true, true, true, true, true, false, false] rfl rfl (any_of HT_.out (by kernel_rfl)) (fun _ _ _ h => h) (Or.inl ⟨by rfl, ?_⟩) ?_ ?_
  rotate_left
  · intro w'
    go_simp
    with_reducible rfl
  rotate_left
  · simp only [Act.put, List.setIfInBounds_toArray, List.set_cons_zero, List.set_cons_succ, i64_w, i32_w]
    rfl
  refine pure_ (i := 24) (N := some 47) (v := ?_) (a' := ?_) #[true, true, true, true, true, true, true, true, true, true, true, true, true, true, true, true, true, true, true, true, true, true, true, true, true, false] rfl rfl (any_of HT_.out (by kernel_rfl)) (fun _ _ _ h => h) (Or.inl ⟨by rfl, ?_⟩) ?_ ?_
  rotate_left
  · intro w'
    go_simp
    with_reducible rfl
  rotate_left
  · simp only [Act.put, List.setIfInBounds_toArray, List.set_cons_zero, List.set_cons_succ, i64_w, i32_w]
    rfl
  refine pure_ (i := 25) (N := some 4) (v := ?_) (a' := ?_) #[true, true, true, true, true, true, true, true, true, true, true, true, true, true, true, true, true, true, true, true, true, true, true, true, true, true] rfl rfl (any_of HT_.out (by kernel_rfl)) (fun _ _ _ h => h) (Or.inl ⟨by rfl, ?_⟩) ?_ ?_
  rotate_left
  · intro w'
    go_simp
    with_reducible rfl
  rotate_left
  · simp only [Act.put, List.setIfInBounds_toArray, List.set_cons_zero, List.set_cons_succ, i64_w, i32_w]
    rfl
  refine done_ (done_of HT_.out (by kernel_rfl)) ?_
  go_wp2
  go_ret
  exact ⟨rfl, below_call B5.out BB.out⟩
end Go.Proofs.Ytojmfbdioaocpaa.P

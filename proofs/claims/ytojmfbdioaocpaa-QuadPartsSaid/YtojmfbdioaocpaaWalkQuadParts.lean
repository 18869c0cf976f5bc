/- Layer 9: the law QuadParts, walked: what is in two halves of a box. -/
import Derived.Test.YtojmfbdioaocpaaLawC
import Derived.Test.YtojmfbdioaocpaaPx16
import Derived.Test.YtojmfbdioaocpaaPx20
import Derived.Test.YtojmfbdioaocpaaPx2101
namespace Go.Proofs.Ytojmfbdioaocpaa.P
open Go.RowKit Go.Proofs.YtojmfbdioaocpaaOwn Go.Proofs.YtojmfbdioaocpaaW.PrintWords Go.Proofs.YtojmfbdioaocpaaW.PrintLast Go.Proofs.YtojmfbdioaocpaaW.PrintMore
set_option linter.unusedVariables false
set_option linter.unusedSimpArgs false
attribute [local go_sem] max2_int min2_int max_two min_two
def sphragislaw09_QuadParts.f (k : Nat) (l0 : List S26) (b0 : Int) (b1 : Int) (b2 : Int) (b3 : Int) (at_ : Int) : Option Bool :=
  (sphragislaw09_shown.f k).bind fun hd => (sphragislaw09_few.f l0).bind fun l => (quad_Build.f k l).bind fun q => if hd = true ∧ l.length ≤ 60 then (if q.2.2.2.2.2 = 0 ∧ cell_RightBox.f b0 b1 b2 b3 = some true ∧ b0 ≤ at_ ∧ at_ < b2 then (quad_Count.f k q.1 q.2.1 q.2.2.1 q.2.2.2.1 q.2.2.2.2.1 b0 b1 b2 b3).bind fun m1 => (quad_Count.f k q.1 q.2.1 q.2.2.1 q.2.2.2.1 q.2.2.2.2.1 b0 b1 at_ b3).bind fun m2 => (quad_Count.f k q.1 q.2.1 q.2.2.1 q.2.2.2.1 q.2.2.2.2.1 ((at_ + 1) % 4294967296) b1 b2 b3).bind fun m3 => (quad_Window.f k q.1 q.2.1 q.2.2.1 q.2.2.2.1 q.2.2.2.2.1 b0 b1 b2 b3).bind fun p => (if m1.2 = 0 ∧ m2.2 = 0 ∧ m3.2 = 0 ∧ p.2 = 0 ∧ m1.1 = wrap64 (m2.1 + m3.1) ∧ (p.1.length : Int) = m1.1 then some true else none) else some true) else none
set_option maxRecDepth 100000 in
set_option maxHeartbeats 4000000 in
theorem sphragislaw09_QuadParts.calls (k : Nat) (A0 : Option Addr) (c0 : Nat) (l0 : List S26) (b0 : Int) (b1 : Int) (b2 : Int) (b3 : Int) (at_ : Int) (r : Bool) (w : World) (hr0 : Kd.C k26 w A0 l0.length l0) (hc0 : l0.length ≤ c0) (h : sphragislaw09_QuadParts.f k l0 b0 b1 b2 b3 at_ = some r) :
    Calls Try.prog 9 #[.slice A0 l0.length c0, .agg #[.int .u32 b0, .int .u32 b1, .int .u32 b2, .int .u32 b3], .int .u32 at_] w fun e w' => e = .returned (.bool r) ∧ Below w.heap.size w w' := by
  unfold sphragislaw09_QuadParts.f at h
  obtain ⟨hd, hs, h1⟩ := Option.bind_eq_some_iff.1 h
  obtain ⟨l, hf, h2⟩ := Option.bind_eq_some_iff.1 h1
  obtain ⟨⟨x, y, v, rs, ks, er⟩, hb, h3⟩ := Option.bind_eq_some_iff.1 h2
  clear h h1 h2
  have h := h3
  clear h3
  by_cases hc : hd = true ∧ l.length ≤ 60
  case neg => rw [if_neg hc] at h; cases h
  rw [if_pos hc] at h
  obtain ⟨rfl, hl60⟩ := hc
  try dsimp only at h
  have HS := Aside0.mk hs
  have HF := Aside0.mk hf
  have HB := Aside0.mk hb
  have HR := Aside0.mk hr0
  have HC := Aside0.mk hc0
  clear hs hf hb hr0 hc0
  have X0 := Aside0.mk (boxc_new w #[.int .u32 b0, .int .u32 b1, .int .u32 b2, .int .u32 b3] 53)
  go_enter Try.func9, Try.ntmps9
  go_wp2_with fail
  refine (sphragislaw09_shown.calls k true _ HS.out).mono ?_
  rintro e w1 ⟨rfl, hb1⟩
  have B1 := Aside0.mk (below_call (below_alloc' (Below.refl w.heap.size w) (.cells #[.int .u32 b0, .int .u32 b1, .int .u32 b2, .int .u32 b3] 53)) hb1)
  go_wp2_with fail
  refine (few_calls9 A0 c0 l0 l _ (Kd.C_below HR.out (B1.out.mono (Nat.le_refl _))) HC.out HF.out).mono ?_
  rintro e w2 ⟨A, c, rfl, hlc, hC, hb2⟩
  have B2 := Aside0.mk (below_call B1.out hb2)
  have HL := Aside0.mk hC
  have HLC := Aside0.mk hlc
  have X2 := Aside0.mk (boxc_below (boxc_below X0.out hb1) hb2)
  clear hb1 hb2 hC hlc
  go_wp2_with fail
  refine (build_calls9 k A c l _ _ HL.out HLC.out HB.out).mono ?_
  rintro e w3 ⟨A3, c3, A4, c4, rfl, ⟨g3, C3, g4, C4⟩, hb3⟩
  dsimp only at g3 C3 g4 C4 ⊢
  have B3 := Aside0.mk (below_call B2.out hb3)
  have G3 := Aside0.mk g3
  have G4 := Aside0.mk g4
  have D3 := Aside0.mk C3
  have D4 := Aside0.mk C4
  have L3 := Aside0.mk (Kd.C_below HL.out (hb3.mono (Nat.le_refl _)))
  have X3 := Aside0.mk (boxc_below X2.out hb3)
  clear hb3 g3 g4 C3 C4
  have hu := Try.underlying33
  by_cases he : er = 0
  case neg =>
    rw [if_neg (fun e => he e.1)] at h
    cases h
    have heb : (er != 0) = true := bne_iff_ne.2 he
    clear he
    go_wp2
    go_ret
    exact ⟨rfl, below_alloc' B3.out _⟩
  subst he
  obtain ⟨t, ht⟩ := cell_RightBox.tot b0 b1 b2 b3
  obtain ⟨W4, hW4⟩ : ∃ W4, w3.alloc (.cells #[.int .u32 x, .int .u32 y, .int .i64 v, .slice A3 rs.length c3, .slice A4 ks.length c4] 33) = W4 := ⟨_, rfl⟩
  have B4 : Aside0 (Below w3.heap.size w3 W4) := ⟨by rw [← hW4]; exact below_alloc' (Below.refl _ w3) _⟩
  have hn4 : W4.heap[w3.heap.size]? = some (.cells #[.int .u32 x, .int .u32 y, .int .i64 v, .slice A3 rs.length c3, .slice A4 ks.length c4] 33 (0, 0)) := by rw [← hW4]; exact boxc_new w3 _ _
  have X4 := Aside0.mk (boxc_below X3.out B4.out)
  have HN4 := Aside0.mk hn4
  clear hn4
  have x0 := boxc_cell X4.out 0
  have x1 := boxc_cell X4.out 1
  have x2 := boxc_cell X4.out 2
  have x3 := boxc_cell X4.out 3
  go_wp2_with fail
  refine (cell_RightBox.calls b0 b1 b2 b3 t _ ht).mono ?_
  rintro e w5 ⟨rfl, hb5⟩
  have B5 := Aside0.mk (below_call B4.out hb5)
  have HN5 := Aside0.mk (boxc_below HN4.out hb5)
  have X5 := Aside0.mk (boxc_below X4.out hb5)
  clear x0 x1 x2 x3 hb5
  have x0 := boxc_cell X5.out 0
  have x1 := boxc_cell X5.out 1
  have x2 := boxc_cell X5.out 2
  have x3 := boxc_cell X5.out 3
  have n0 := boxc_cell HN5.out 0
  have n1 := boxc_cell HN5.out 1
  have n2 := boxc_cell HN5.out 2
  have n3 := boxc_cell HN5.out 3
  have n4 := boxc_cell HN5.out 4
  cases t with
  | false =>
    rw [if_neg (fun e => by have := e.2.1; rw [ht] at this; cases this)] at h
    cases h
    go_wp2
    go_ret
    exact ⟨rfl, below_call B3.out B5.out⟩
  | true =>
    by_cases hlo : b0 ≤ at_
    case neg =>
      have hlb : decide (at_ < b0) = true := decide_eq_true (by omega)
      rw [if_neg (fun e => hlo e.2.2.1)] at h
      cases h
      go_wp2
      go_ret
      exact ⟨rfl, below_call B3.out B5.out⟩
    have hlb : decide (at_ < b0) = false := decide_eq_false (by omega)
    by_cases hhi : at_ < b2
    case neg =>
      have hhb : decide (b2 ≤ at_) = true := decide_eq_true (by omega)
      rw [if_neg (fun e => hhi e.2.2.2)] at h
      cases h
      go_wp2
      go_ret
      exact ⟨rfl, below_call B3.out B5.out⟩
    have hhb : decide (b2 ≤ at_) = false := decide_eq_false (by omega)
    rw [if_pos ⟨by trivial, ht, hlo, hhi⟩] at h
    clear hlo hhi ht x0 x1 x2 x3 n0 n1 n2 n3 n4
    have YX := Aside0.mk (boxc_alloc X5.out (.cells #[.int .u32 b0, .int .u32 b1, .int .u32 at_, .int .u32 b3] 53))
    have x0 := boxc_cell YX.out 0
    have x1 := boxc_cell YX.out 1
    have x2 := boxc_cell YX.out 2
    have x3 := boxc_cell YX.out 3
    have z0 := boxc_cell X5.out 0
    have z1 := boxc_cell X5.out 1
    have z2 := boxc_cell X5.out 2
    have z3 := boxc_cell X5.out 3
    obtain ⟨W9, hW9⟩ : ∃ W9, (w5.alloc (.cells #[.int .u32 b0, .int .u32 b1, .int .u32 at_, .int .u32 b3] 53)).alloc (.cells #[.int .u32 ((at_ + 1) % 4294967296), .int .u32 b1, .int .u32 b2, .int .u32 b3] 53) = W9 := ⟨_, rfl⟩
    have B9 : Aside0 (Below w3.heap.size w3 W9) := ⟨by rw [← hW9]; exact below_alloc' (below_alloc' B5.out _) _⟩
    have HN9 : Aside0 (W9.heap[w3.heap.size]? = some (.cells #[.int .u32 x, .int .u32 y, .int .i64 v, .slice A3 rs.length c3, .slice A4 ks.length c4] 33 (0, 0))) := ⟨by rw [← hW9]; exact boxc_alloc (boxc_alloc HN5.out _) _⟩
    have X9 : Aside0 (W9.heap[w.heap.size]? = some (.cells #[.int .u32 b0, .int .u32 b1, .int .u32 b2, .int .u32 b3] 53 (0, 0))) := ⟨by rw [← hW9]; exact boxc_alloc (boxc_alloc X5.out _) _⟩
    have L9 : Aside0 (W9.heap[w5.heap.size]? = some (.cells #[.int .u32 b0, .int .u32 b1, .int .u32 at_, .int .u32 b3] 53 (0, 0))) := ⟨by rw [← hW9]; exact boxc_alloc (boxc_new w5 _ _) _⟩
    have R9 : Aside0 (W9.heap[w5.heap.size + 1]? = some (.cells #[.int .u32 ((at_ + 1) % 4294967296), .int .u32 b1, .int .u32 b2, .int .u32 b3] 53 (0, 0))) := ⟨by rw [← hW9]; have := boxc_new (w5.alloc (.cells #[.int .u32 b0, .int .u32 b1, .int .u32 at_, .int .u32 b3] 53)) #[.int .u32 ((at_ + 1) % 4294967296), .int .u32 b1, .int .u32 b2, .int .u32 b3] 53; simpa using this⟩
    have n0 := boxc_cell HN9.out 0
    have n1 := boxc_cell HN9.out 1
    have n2 := boxc_cell HN9.out 2
    have n3 := boxc_cell HN9.out 3
    have n4 := boxc_cell HN9.out 4
    have y0 := boxc_cell X9.out 0
    have y1 := boxc_cell X9.out 1
    have y2 := boxc_cell X9.out 2
    have y3 := boxc_cell X9.out 3
    obtain ⟨⟨m1, e1⟩, hm1, h1⟩ := Option.bind_eq_some_iff.1 h
    obtain ⟨⟨m2, e2⟩, hm2, h2⟩ := Option.bind_eq_some_iff.1 h1
    obtain ⟨⟨m3, e3⟩, hm3, h3⟩ := Option.bind_eq_some_iff.1 h2
    obtain ⟨⟨p1, e4⟩, hp, h4⟩ := Option.bind_eq_some_iff.1 h3
    clear h h1 h2 h3
    dsimp only at h4
    by_cases hmm : e1 = 0 ∧ e2 = 0 ∧ e3 = 0 ∧ e4 = 0 ∧ m1 = wrap64 (m2 + m3) ∧ (p1.length : Int) = m1
    case neg => rw [if_neg hmm] at h4; cases h4
    rw [if_pos hmm] at h4
    cases h4
    obtain ⟨rfl, rfl, rfl, rfl, hs1, hs2⟩ := hmm
    have H1 := Aside0.mk hm1
    have H2 := Aside0.mk hm2
    have H3 := Aside0.mk hm3
    have H4 := Aside0.mk hp
    have HS1 := Aside0.mk hs1
    have HS2 := Aside0.mk hs2
    clear hm1 hm2 hm3 hp hs1 hs2
    go_wp2_with fail
    clear hW9 x0 x1 x2 x3 z0 z1 z2 z3
    refine (quad_Count.calls k x y v A3 c3 rs A4 c4 ks b0 b1 b2 b3 m1 0 _ (Kd.C_below D3.out B9.out) G3.out (Kd.C_below D4.out B9.out) G4.out H1.out).mono ?_
    rintro e w10 ⟨rfl, hb10⟩
    have B10 := Aside0.mk (below_call B9.out hb10)
    have HN10 := Aside0.mk (boxc_below HN9.out hb10)
    have X10 := Aside0.mk (boxc_below X9.out hb10)
    have L10 := Aside0.mk (boxc_below L9.out hb10)
    have R10 := Aside0.mk (boxc_below R9.out hb10)
    clear n0 n1 n2 n3 n4 y0 y1 y2 y3 hb10
    have n0 := boxc_cell HN10.out 0
    have n1 := boxc_cell HN10.out 1
    have n2 := boxc_cell HN10.out 2
    have n3 := boxc_cell HN10.out 3
    have n4 := boxc_cell HN10.out 4
    have y0 := boxc_cell L10.out 0
    have y1 := boxc_cell L10.out 1
    have y2 := boxc_cell L10.out 2
    have y3 := boxc_cell L10.out 3
    go_wp2_with fail
    refine (quad_Count.calls k x y v A3 c3 rs A4 c4 ks b0 b1 at_ b3 m2 0 _ (Kd.C_below D3.out B10.out) G3.out (Kd.C_below D4.out B10.out) G4.out H2.out).mono ?_
    rintro e w11 ⟨rfl, hb11⟩
    have B11 := Aside0.mk (below_call B10.out hb11)
    have HN11 := Aside0.mk (boxc_below HN10.out hb11)
    have X11 := Aside0.mk (boxc_below X10.out hb11)
    have R11 := Aside0.mk (boxc_below R10.out hb11)
    clear n0 n1 n2 n3 n4 y0 y1 y2 y3 hb11
    have n0 := boxc_cell HN11.out 0
    have n1 := boxc_cell HN11.out 1
    have n2 := boxc_cell HN11.out 2
    have n3 := boxc_cell HN11.out 3
    have n4 := boxc_cell HN11.out 4
    have y0 := boxc_cell R11.out 0
    have y1 := boxc_cell R11.out 1
    have y2 := boxc_cell R11.out 2
    have y3 := boxc_cell R11.out 3
    go_wp2_with fail
    refine (quad_Count.calls k x y v A3 c3 rs A4 c4 ks ((at_ + 1) % 4294967296) b1 b2 b3 m3 0 _ (Kd.C_below D3.out B11.out) G3.out (Kd.C_below D4.out B11.out) G4.out H3.out).mono ?_
    rintro e w12 ⟨rfl, hb12⟩
    have B12 := Aside0.mk (below_call B11.out hb12)
    have HN12 := Aside0.mk (boxc_below HN11.out hb12)
    have X12 := Aside0.mk (boxc_below X11.out hb12)
    clear n0 n1 n2 n3 n4 y0 y1 y2 y3 hb12
    have n0 := boxc_cell HN12.out 0
    have n1 := boxc_cell HN12.out 1
    have n2 := boxc_cell HN12.out 2
    have n3 := boxc_cell HN12.out 3
    have n4 := boxc_cell HN12.out 4
    have y0 := boxc_cell X12.out 0
    have y1 := boxc_cell X12.out 1
    have y2 := boxc_cell X12.out 2
    have y3 := boxc_cell X12.out 3
    go_wp2_with fail
    refine (quad_Window.calls k x y v A3 c3 rs A4 c4 ks b0 b1 b2 b3 p1 0 _ (Kd.C_below D3.out B12.out) G3.out (Kd.C_below D4.out B12.out) G4.out H4.out).mono ?_
    rintro e w13 ⟨v13, rfl, hR13, hb13⟩
    obtain ⟨A13, c13, rfl⟩ := Kd.R_slice hR13
    have B13 := Aside0.mk (below_call B12.out hb13)
    have hs1 : (m1 == wrap64 (m2 + m3)) = true := beq_iff_eq.2 HS1.out
    have hs2 : ((p1.length : Int) == m1) = true := beq_iff_eq.2 HS2.out
    clear n0 n1 n2 n3 n4 y0 y1 y2 y3 hb13 hR13
    go_wp2
    go_ret
    exact ⟨rfl, below_call B3.out B13.out⟩
end Go.Proofs.Ytojmfbdioaocpaa.P

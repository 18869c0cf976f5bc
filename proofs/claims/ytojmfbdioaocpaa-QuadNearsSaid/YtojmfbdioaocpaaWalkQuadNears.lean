/- Layer 9: the law QuadNears, walked: the nearest rows. -/
import Derived.Test.YtojmfbdioaocpaaLawC
import Derived.Test.YtojmfbdioaocpaaNearD
import Derived.Test.YtojmfbdioaocpaaPx1201
import Derived.Test.YtojmfbdioaocpaaPx18
namespace Go.Proofs.Ytojmfbdioaocpaa.P
open Go.RowKit Go.Proofs.YtojmfbdioaocpaaOwn Go.Proofs.YtojmfbdioaocpaaW.PrintWords Go.Proofs.YtojmfbdioaocpaaW.PrintLast Go.Proofs.YtojmfbdioaocpaaW.PrintMore
set_option linter.unusedVariables false
set_option linter.unusedSimpArgs false
attribute [local go_sem] max2_int min2_int max_two min_two
def sphragislaw09_QuadNears.f (k : Nat) (l0 : List S26) (a1 : Int) (a2 : Int) (a3 : Int) : Option Bool :=
  (sphragislaw09_shown.f k).bind fun hd => (sphragislaw09_few.f l0).bind fun l => (quad_Build.f k l).bind fun q => if hd = true ∧ l.length ≤ 60 then (if q.2.2.2.2.2 = 0 then (quad_Near.f k q.1 q.2.1 q.2.2.1 q.2.2.2.1 q.2.2.2.2.1 a1 a2 a3).bind fun p => (sphragisref09_Near.f k l a1 a2 a3).bind fun s => (sphragisref09_Same.f k p.1 s.1).bind fun t => (if t = true ∧ p.2 = s.2 then some true else none) else some true) else none
set_option maxRecDepth 100000 in
set_option maxHeartbeats 4000000 in
theorem sphragislaw09_QuadNears.calls (k : Nat) (A0 : Option Addr) (c0 : Nat) (l0 : List S26) (a1 : Int) (a2 : Int) (a3 : Int) (r : Bool) (w : World) (hr0 : Kd.C k26 w A0 l0.length l0) (hc0 : l0.length ≤ c0) (h : sphragislaw09_QuadNears.f k l0 a1 a2 a3 = some r) :
    Calls Try.prog 6 #[.slice A0 l0.length c0, .int .u32 a1, .int .u32 a2, .int .i64 a3] w fun e w' => e = .returned (.bool r) ∧ Below w.heap.size w w' := by
  unfold sphragislaw09_QuadNears.f at h
  obtain ⟨hd, hs, h1⟩ := Option.bind_eq_some_iff.1 h
  obtain ⟨l, hf, h2⟩ := Option.bind_eq_some_iff.1 h1
  obtain ⟨⟨x, y, v, rs, ks, er⟩, hb, h3⟩ := Option.bind_eq_some_iff.1 h2
  clear h h1 h2
  have h := h3
  clear h3
  by_cases hc : hd = true ∧ l.length ≤ 60
  case neg => rw [if_neg hc] at h; cases h
  rw [if_pos hc] at h
  obtain ⟨rfl, hl60⟩ := hc
  try dsimp only at h
  have HS := Aside0.mk hs
  have HF := Aside0.mk hf
  have HB := Aside0.mk hb
  have HR := Aside0.mk hr0
  have HC := Aside0.mk hc0
  clear hs hf hb hr0 hc0
  go_enter Try.func6, Try.ntmps6
  go_wp2_with fail
  refine (sphragislaw09_shown.calls k true _ HS.out).mono ?_
  rintro e w1 ⟨rfl, hb1⟩
  have B1 := Aside0.mk (below_call (Below.refl w.heap.size w) hb1)
  go_wp2_with fail
  refine (few_calls9 A0 c0 l0 l _ (Kd.C_below HR.out (B1.out.mono (Nat.le_refl _))) HC.out HF.out).mono ?_
  rintro e w2 ⟨A, c, rfl, hlc, hC, hb2⟩
  have B2 := Aside0.mk (below_call B1.out hb2)
  have HL := Aside0.mk hC
  have HLC := Aside0.mk hlc
  clear hb1 hb2 hC hlc
  go_wp2_with fail
  refine (build_calls9 k A c l _ _ HL.out HLC.out HB.out).mono ?_
  rintro e w3 ⟨A3, c3, A4, c4, rfl, ⟨g3, C3, g4, C4⟩, hb3⟩
  dsimp only at g3 C3 g4 C4 ⊢
  have B3 := Aside0.mk (below_call B2.out hb3)
  have G3 := Aside0.mk g3
  have G4 := Aside0.mk g4
  have D3 := Aside0.mk C3
  have D4 := Aside0.mk C4
  have L3 := Aside0.mk (Kd.C_below HL.out (hb3.mono (Nat.le_refl _)))
  clear hb3 g3 g4 C3 C4
  have hu := Try.underlying33
  by_cases he : er = 0
  · subst he
    rw [if_pos rfl] at h
    obtain ⟨⟨p1, p2⟩, hp, h1⟩ := Option.bind_eq_some_iff.1 h
    obtain ⟨⟨s1, s2⟩, hs, h2⟩ := Option.bind_eq_some_iff.1 h1
    obtain ⟨t, ht, h3⟩ := Option.bind_eq_some_iff.1 h2
    clear h h1 h2
    dsimp only at ht h3
    by_cases hmm : t = true ∧ p2 = s2
    case neg => rw [if_neg hmm] at h3; cases h3
    rw [if_pos hmm] at h3
    cases h3
    obtain ⟨rfl, rfl⟩ := hmm
    have H1 := Aside0.mk hp
    have H2 := Aside0.mk hs
    have H3 := Aside0.mk ht
    clear hp hs ht
    obtain ⟨W4, hW4⟩ : ∃ W4, w3.alloc (.cells #[.int .u32 x, .int .u32 y, .int .i64 v, .slice A3 rs.length c3, .slice A4 ks.length c4] 33) = W4 := ⟨_, rfl⟩
    have B4 : Aside0 (Below w3.heap.size w3 W4) := ⟨by rw [← hW4]; exact below_alloc' (Below.refl _ w3) _⟩
    have hn4 : W4.heap[w3.heap.size]? = some (.cells #[.int .u32 x, .int .u32 y, .int .i64 v, .slice A3 rs.length c3, .slice A4 ks.length c4] 33 (0, 0)) := by rw [← hW4]; exact boxc_new w3 _ _
    have n0 := boxc_cell hn4 0
    have n1 := boxc_cell hn4 1
    have n2 := boxc_cell hn4 2
    have n3 := boxc_cell hn4 3
    have n4 := boxc_cell hn4 4
    have HN4 := Aside0.mk hn4
    clear hn4
    go_wp2_with fail
    refine (quad_Near.calls k x y v A3 c3 rs A4 c4 ks a1 a2 a3 p1 p2 _ (Kd.C_below D3.out B4.out) G3.out (Kd.C_below D4.out B4.out) G4.out H1.out).mono ?_
    rintro e w5 ⟨v5, rfl, hR5, hb5⟩
    have B5 := Aside0.mk (below_call B4.out hb5)
    obtain ⟨A5, c5, rfl⟩ := Kd.R_slice hR5
    have R5 := Aside0.mk (Kd.R_reads' hR5)
    clear hR5
    clear n0 n1 n2 n3 n4
    clear hb5
    go_wp2_with fail
    refine (sphragisref09_Near.calls k A c l a1 a2 a3 s1 p2 _ (Kd.C_below L3.out B5.out) HLC.out H2.out).mono ?_
    rintro e w6 ⟨v6, rfl, hR6, hb6⟩
    have B6 := Aside0.mk (below_call B5.out hb6)
    have C5 := Aside0.mk (Kd.C_below R5.out.2.2 hb6)
    obtain ⟨A6, c6, rfl⟩ := Kd.R_slice hR6
    have R6 := Aside0.mk (Kd.R_reads' hR6)
    clear hR6
    clear hb6
    go_wp2_with fail
    refine (sphragisref09_Same.calls k A5 c5 p1 A6 c6 s1 true _ C5.out R5.out.2.1 R6.out.2.2 R6.out.2.1 H3.out).mono ?_
    rintro e w7 ⟨rfl, hb7'⟩
    have hb7 := hb7'.below
    have B7 := Aside0.mk (below_call B6.out hb7)
    clear hb7 hb7'
    go_wp2
    go_ret
    exact ⟨rfl, below_call B3.out B7.out⟩
  · have heb : (er != 0) = true := bne_iff_ne.2 he
    rw [if_neg he] at h
    cases h
    clear he
    go_wp2
    go_ret
    exact ⟨rfl, below_alloc' B3.out _⟩
end Go.Proofs.Ytojmfbdioaocpaa.P

/- Layer 9: the law QuadWhole, walked: a tree's nodes. -/
import Derived.Test.YtojmfbdioaocpaaLawC
import Derived.Test.YtojmfbdioaocpaaPx14
namespace Go.Proofs.Ytojmfbdioaocpaa.P
open Go.RowKit Go.Proofs.YtojmfbdioaocpaaOwn Go.Proofs.YtojmfbdioaocpaaW.PrintWords Go.Proofs.YtojmfbdioaocpaaW.PrintLast Go.Proofs.YtojmfbdioaocpaaW.PrintMore
set_option linter.unusedVariables false
set_option linter.unusedSimpArgs false
attribute [local go_sem] max2_int min2_int max_two min_two
def sphragislaw09_QuadWhole.f (k : Nat) (l0 : List S26)  : Option Bool :=
  (sphragislaw09_shown.f k).bind fun hd => (sphragislaw09_few.f l0).bind fun l => (quad_Build.f k l).bind fun q => if hd = true ∧ l.length ≤ 60 then (if q.2.2.2.2.2 = 0 then (sphragislaw09_whole.f k q.1 q.2.1 q.2.2.1 q.2.2.2.1 q.2.2.2.2.1 true).bind fun m => (if 1 ≤ m ∧ (m ≤ 1 ∨ m ≤ 2 * (l.length : Int)) then some true else none) else some true) else none
set_option maxRecDepth 100000 in
set_option maxHeartbeats 4000000 in
theorem sphragislaw09_QuadWhole.calls (k : Nat) (A0 : Option Addr) (c0 : Nat) (l0 : List S26)  (r : Bool) (w : World) (hr0 : Kd.C k26 w A0 l0.length l0) (hc0 : l0.length ≤ c0) (h : sphragislaw09_QuadWhole.f k l0  = some r) :
    Calls Try.prog 4 #[.slice A0 l0.length c0] w fun e w' => e = .returned (.bool r) ∧ Below w.heap.size w w' := by
  unfold sphragislaw09_QuadWhole.f at h
  obtain ⟨hd, hs, h1⟩ := Option.bind_eq_some_iff.1 h
  obtain ⟨l, hf, h2⟩ := Option.bind_eq_some_iff.1 h1
  obtain ⟨⟨x, y, v, rs, ks, er⟩, hb, h3⟩ := Option.bind_eq_some_iff.1 h2
  clear h h1 h2
  have h := h3
  clear h3
  by_cases hc : hd = true ∧ l.length ≤ 60
  case neg => rw [if_neg hc] at h; cases h
  rw [if_pos hc] at h
  obtain ⟨rfl, hl60⟩ := hc
  try dsimp only at h
  have HS := Aside0.mk hs
  have HF := Aside0.mk hf
  have HB := Aside0.mk hb
  have HR := Aside0.mk hr0
  have HC := Aside0.mk hc0
  clear hs hf hb hr0 hc0
  go_enter Try.func4, Try.ntmps4
  go_wp2_with fail
  refine (sphragislaw09_shown.calls k true _ HS.out).mono ?_
  rintro e w1 ⟨rfl, hb1⟩
  have B1 := Aside0.mk (below_call (Below.refl w.heap.size w) hb1)
  go_wp2_with fail
  refine (few_calls9 A0 c0 l0 l _ (Kd.C_below HR.out (B1.out.mono (Nat.le_refl _))) HC.out HF.out).mono ?_
  rintro e w2 ⟨A, c, rfl, hlc, hC, hb2⟩
  have B2 := Aside0.mk (below_call B1.out hb2)
  have HL := Aside0.mk hC
  have HLC := Aside0.mk hlc
  clear hb1 hb2 hC hlc
  go_wp2_with fail
  refine (build_calls9 k A c l _ _ HL.out HLC.out HB.out).mono ?_
  rintro e w3 ⟨A3, c3, A4, c4, rfl, ⟨g3, C3, g4, C4⟩, hb3⟩
  dsimp only at g3 C3 g4 C4 ⊢
  have B3 := Aside0.mk (below_call B2.out hb3)
  have G3 := Aside0.mk g3
  have G4 := Aside0.mk g4
  have D3 := Aside0.mk C3
  have D4 := Aside0.mk C4
  have L3 := Aside0.mk (Kd.C_below HL.out (hb3.mono (Nat.le_refl _)))
  clear hb3 g3 g4 C3 C4
  have hu := Try.underlying33
  by_cases he : er = 0
  · subst he
    rw [if_pos rfl] at h
    obtain ⟨m, hm, h1⟩ := Option.bind_eq_some_iff.1 h
    clear h
    by_cases hmm : 1 ≤ m ∧ (m ≤ 1 ∨ m ≤ 2 * (l.length : Int))
    case neg => rw [if_neg hmm] at h1; cases h1
    rw [if_pos hmm] at h1
    cases h1
    have HM := Aside0.mk hm
    clear hm
    go_wp2_with fail
    refine (sphragislaw09_whole.calls k x y v A3 c3 rs A4 c4 ks true m _ (Kd.C_alloc D3.out _) G3.out (Kd.C_alloc D4.out _) G4.out HM.out).mono ?_
    rintro e w5 ⟨rfl, hb5⟩
    have hge : decide (1 ≤ m) = true := decide_eq_true hmm.1
    have hw : wrap64 (2 * (l.length : Int)) = 2 * (l.length : Int) := by unfold wrap64; omega
    obtain ⟨mx2, hmx⟩ : ∃ z, (if 1 < 2 * (l.length : Int) then 2 * (l.length : Int) else 1) = z := ⟨_, rfl⟩
    have hle : decide (m ≤ mx2) = true := decide_eq_true (by rw [← hmx]; split <;> omega)
    clear hmm
    go_wp2
    go_ret
    exact ⟨rfl, below_call (below_alloc' B3.out _) hb5⟩
  · have heb : (er != 0) = true := bne_iff_ne.2 he
    rw [if_neg he] at h
    cases h
    clear he
    go_wp2
    go_ret
    exact ⟨rfl, below_alloc' B3.out _⟩
end Go.Proofs.Ytojmfbdioaocpaa.P

/- Layer 11: the law FindPieces, walked. -/
import Derived.Test.YtoimgijhekahhaaFindV
import Derived.Test.YtoimgijhekahhaaPx903
namespace Go.Proofs.Ytoimgijhekahhaa.P
open Go.RowKit Go.Proofs.YtoimgijhekahhaaOwn Go.Proofs.YtoimgijhekahhaaW.PrintWords Go.Proofs.YtoimgijhekahhaaW.PrintLast Go.Proofs.YtoimgijhekahhaaW.PrintMore
set_option linter.unusedVariables false
set_option linter.unusedSimpArgs false
/-- What the law asks. -/
def piecesC (k : Nat) (l : List S54) (q : Q11) (m : Int) : Prop :=
  ((allQ l q 100).2 ≠ 0 ∨ m < 1 ∨ 64 < m) ∨ wfQ { q with k := m } ∧ (allQ l { q with k := m } 100).2 = 0 ∧ sphragisref09_Same.f k (allQ l q 100).1 (allQ l { q with k := m } 100).1 = some true
set_option maxRecDepth 100000 in
set_option maxHeartbeats 8000000 in
theorem sphragislaw11_FindPieces.calls (k : Nat) (A0 : Option Addr) (c0 : Nat) (l0 : List S54) (q : Q11) (m : Int) (r : Bool) (w : World) (hr0 : Kd.C k54 w A0 l0.length l0) (hc0 : l0.length ≤ c0) (h : r = true ∧ 128 ≤ k ∧ (∀ s ∈ l0.take 60, wfRow s) ∧ wfQ q ∧ piecesC k (l0.take 60) q m) :
    Calls Try.prog 7 #[.slice A0 l0.length c0, .agg (encQ q), .int .i64 m] w fun e w' => e = .returned (.bool r) ∧ Below w.heap.size w w' := by
  obtain ⟨rfl, hk, wl, wq, h⟩ := h
  obtain ⟨l, hl⟩ : ∃ l, l0.take 60 = l := ⟨_, rfl⟩
  rw [hl] at h wl
  have HN := Aside0.mk (show l.length ≤ l0.length ∧ l0.take l.length = l from ⟨by rw [← hl, List.length_take]; omega, by rw [← hl, List.length_take]; simp⟩)
  have hl60 : l.length ≤ 60 := by rw [← hl]; exact few_len l0
  obtain ⟨a, er, haq⟩ : ∃ a er, allQ l q 100 = (a, er) := ⟨_, _, rfl⟩
  unfold piecesC at h
  rw [haq] at h
  dsimp only at h
  have HH := Aside0.mk h
  have HWL := Aside0.mk wl
  have HL6 := Aside0.mk hl60
  have HAQ := Aside0.mk haq
  have HR := Aside0.mk hr0
  clear h wl hl60 haq hr0
  have hX0 := Aside0.mk (boxc_new w #[.int .i64 q.kind, .int .u32 q.b0, .int .u32 q.b1, .int .u32 q.b2, .int .u32 q.b3, .int .u32 q.x, .int .u32 q.y, .int .u64 q.sq, .int .i64 q.k, .int .u64 q.after, .bool q.from_] 27)
  have hB0 := Aside0.mk (below_alloc' (Below.refl _ w) (.cells #[.int .i64 q.kind, .int .u32 q.b0, .int .u32 q.b1, .int .u32 q.b2, .int .u32 q.b3, .int .u32 q.x, .int .u32 q.y, .int .u64 q.sq, .int .i64 q.k, .int .u64 q.after, .bool q.from_] 27))
  unfold encQ
  go_enter Try.func7, Try.ntmps7
  go_wp2_with fail
  refine (shown_ok _).mono ?_
  rintro e w1 ⟨rfl, hb1⟩
  have B1 := Aside0.mk (below_call hB0.out hb1)
  have X1 := Aside0.mk (boxc_below hX0.out hb1)
  clear hB0 hX0 hb1
  go_wp2_with fail
  refine (few_A A0 c0 l0 _ hc0).mono ?_
  rintro e w2 ⟨rfl, hb2⟩
  have B2 := Aside0.mk (below_call B1.out hb2)
  have X2 := Aside0.mk (boxc_below X1.out hb2)
  have HL := Aside0.mk (show ∀ W, Below w.heap.size w W → Kd.C k54 W A0 l.length l from fun W hb => by have := Kd.C_take (m := l.length) (Kd.C_below HR.out hb) (HN.out.1); rw [HN.out.2] at this; exact this)
  have HLC := Aside0.mk (Nat.le_trans HN.out.1 hc0)
  rw [hl]
  clear B1 X1 hb2 HR hl hc0
  have x0 := boxc_cell X2.out 0
  have x1 := boxc_cell X2.out 1
  have x2 := boxc_cell X2.out 2
  have x3 := boxc_cell X2.out 3
  have x4 := boxc_cell X2.out 4
  have x5 := boxc_cell X2.out 5
  have x6 := boxc_cell X2.out 6
  have x7 := boxc_cell X2.out 7
  have x8 := boxc_cell X2.out 8
  have x9 := boxc_cell X2.out 9
  have x10 := boxc_cell X2.out 10
  go_wp2_with fail
  refine (All_calls k hk A0 c0 l HWL.out HL6.out q wq 100 (by decide) _ (HL.out _ B2.out) HLC.out).mono ?_
  rintro e w3 ⟨v3, rfl, hR3, hb3⟩
  rw [HAQ.out] at hR3 ⊢
  obtain ⟨A3, c3, rfl⟩ := Kd.R_slice hR3
  have B3 := Aside0.mk (below_call B2.out hb3)
  have X3 := Aside0.mk (boxc_below X2.out hb3)
  have hlt2 := boxc_lt X2.out
  have R3 := Aside0.mk (Kd.R_reads' hR3)
  have R4 := Aside0.mk (Kd.R_reads' (R_setc hR3 hlt2 8 (.int .i64 m)))
  clear B2 X2 hb3 hR3 hlt2 x0 x1 x2 x3 x4 x5 x6 x7 x8 x9 x10
  have x8 := boxc_cell X3.out 8
  have hh := HH.out
  clear HH
  rcases hh with c1 | ⟨wq2, hfr, ht⟩
  · by_cases c2 : er = 0
    · have e1 : (er != 0) = false := bne_eq_false_iff_eq.2 c2
      by_cases c3 : m < 1
      · have e2 : decide (m < 1) = true := decide_eq_true c3
        clear c1 c2 c3
        go_wp2
        go_ret
        exact ⟨rfl, B3.out⟩
      · have e2 : decide (m < 1) = false := decide_eq_false c3
        have e3 : decide (64 < m) = true := decide_eq_true (by rcases c1 with h | h | h <;> first | exact absurd c2 h | exact absurd h c3 | exact h)
        clear c1 c2 c3
        go_wp2
        go_ret
        exact ⟨rfl, B3.out⟩
    · have e1 : (er != 0) = true := bne_iff_ne.2 c2
      clear c1 c2
      go_wp2
      go_ret
      exact ⟨rfl, B3.out⟩
  by_cases c1 : er ≠ 0 ∨ m < 1 ∨ 64 < m
  · by_cases c2 : er = 0
    · have e1 : (er != 0) = false := bne_eq_false_iff_eq.2 c2
      by_cases c3 : m < 1
      · have e2 : decide (m < 1) = true := decide_eq_true c3
        clear c1 c2 c3 hfr ht
        go_wp2
        go_ret
        exact ⟨rfl, B3.out⟩
      · have e2 : decide (m < 1) = false := decide_eq_false c3
        have e3 : decide (64 < m) = true := decide_eq_true (by rcases c1 with h | h | h <;> first | exact absurd c2 h | exact absurd h c3 | exact h)
        clear c1 c2 c3 hfr ht
        go_wp2
        go_ret
        exact ⟨rfl, B3.out⟩
    · have e1 : (er != 0) = true := bne_iff_ne.2 c2
      clear c1 c2 hfr ht
      go_wp2
      go_ret
      exact ⟨rfl, B3.out⟩
  obtain ⟨b, fr, hbq⟩ : ∃ b fr, allQ l { q with k := m } 100 = (b, fr) := ⟨_, _, rfl⟩
  rw [hbq] at hfr ht
  obtain rfl : fr = 0 := hfr
  dsimp only at ht
  have HBQ := Aside0.mk hbq
  have HT := Aside0.mk ht
  have e1 : (er != 0) = false := bne_eq_false_iff_eq.2 (Decidable.byContradiction fun h => c1 (.inl h))
  have e2 : decide (m < 1) = false := decide_eq_false fun h => c1 (.inr (.inl h))
  have e3 : decide (64 < m) = false := decide_eq_false fun h => c1 (.inr (.inr h))
  clear ht hbq c1
  have hlt := boxc_lt X3.out
  have X4 := Aside0.mk (show (w3.setCell ⟨w.heap.size, 8, none⟩ (.int .i64 m)).heap[w.heap.size]? = some (.cells #[.int .i64 q.kind, .int .u32 q.b0, .int .u32 q.b1, .int .u32 q.b2, .int .u32 q.b3, .int .u32 q.x, .int .u32 q.y, .int .u64 q.sq, .int .i64 m, .int .u64 q.after, .bool q.from_] 27 (0, 0)) from boxc_set X3.out 8 (.int .i64 m))
  have f8 := boxc_frozen X3.out 8
  have z0 := boxc_cell X4.out 0
  have z1 := boxc_cell X4.out 1
  have z2 := boxc_cell X4.out 2
  have z3 := boxc_cell X4.out 3
  have z4 := boxc_cell X4.out 4
  have z5 := boxc_cell X4.out 5
  have z6 := boxc_cell X4.out 6
  have z7 := boxc_cell X4.out 7
  have z8 := boxc_cell X4.out 8
  have z9 := boxc_cell X4.out 9
  have z10 := boxc_cell X4.out 10
  have B4' := Aside0.mk (below_set (j := 8) (v := .int .i64 m) B3.out (Nat.le_refl w.heap.size))
  go_wp2_with fail
  refine (All_calls k hk A0 c0 l HWL.out HL6.out { q with k := m } wq2 100 (by decide) _ (HL.out _ B4'.out) HLC.out).mono ?_
  rintro e w5 ⟨v5, rfl, hR5, hb5⟩
  rw [HBQ.out] at hR5 ⊢
  obtain ⟨A5, c5, rfl⟩ := Kd.R_slice hR5
  have B5 := Aside0.mk (below_call B4'.out hb5)
  have R5 := Aside0.mk (Kd.R_reads' hR5)
  have C3 := Aside0.mk (Kd.C_below R4.out.2.2 hb5)
  clear hR5 hb5 z0 z1 z2 z3 z4 z5 z6 z7 z8 z9 z10 f8 X4 B4' X3 x8 R4
  go_wp2_with fail
  refine (sphragisref09_Same.calls k A3 c3 a A5 c5 b true w5 C3.out R3.out.2.1 R5.out.2.2 R5.out.2.1 HT.out).mono ?_
  rintro e w6 ⟨rfl, hb6'⟩
  have hb6 := hb6'.below
  have B6 := Aside0.mk (below_call B5.out hb6)
  clear hb6 hb6'
  go_wp2
  go_ret
  exact ⟨rfl, B6.out⟩
end Go.Proofs.Ytoimgijhekahhaa.P

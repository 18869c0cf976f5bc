/- Layer 11: the law FindLess, walked. -/
import Derived.Test.YtoimgijhekahhaaFuP
import Derived.Test.YtoimgijhekahhaaShP
import Derived.Test.YtoimgijhekahhaaPx903
namespace Go.Proofs.Ytoimgijhekahhaa.P
open Go.RowKit Go.Proofs.YtoimgijhekahhaaOwn Go.Proofs.YtoimgijhekahhaaW.PrintWords Go.Proofs.YtoimgijhekahhaaW.PrintLast Go.Proofs.YtoimgijhekahhaaW.PrintMore
set_option linter.unusedVariables false
set_option linter.unusedSimpArgs false
def sphragislaw11_FindLess.f (k : Nat) (l0 : List S54) (q : Q11) (m : Int) : Option Bool :=
  (AskF k (l0.take 60) q).bind fun p => if p.2.2 ≠ 0 ∨ m < q.k ∨ 64 < m then some true else (AskF k (l0.take 60) { q with k := m }).bind fun s => (sphragisref09_Same.f k p.1 (s.1.take p.1.length)).bind fun t => if s.2.2 = 0 ∧ p.1.length ≤ s.1.length ∧ t = true ∧ (p.2.1 = true ∨ p.1.length = s.1.length) then some true else none
set_option maxRecDepth 100000 in
set_option maxHeartbeats 8000000 in
theorem sphragislaw11_FindLess.calls (k : Nat) (A0 : Option Addr) (c0 : Nat) (l0 : List S54) (q : Q11) (m : Int) (r : Bool) (w : World) (hr0 : Kd.C k54 w A0 l0.length l0) (hc0 : l0.length ≤ c0) (h : sphragislaw11_FindLess.f k l0 q m = some r) :
    Calls Try.prog 6 #[.slice A0 l0.length c0, .agg (encQ q), .int .i64 m] w fun e w' => e = .returned (.bool r) ∧ Below w.heap.size w w' := by
  obtain ⟨l, hl⟩ : ∃ l, l0.take 60 = l := ⟨_, rfl⟩
  unfold sphragislaw11_FindLess.f at h
  rw [hl] at h
  obtain ⟨⟨a, x, er⟩, hp, h1⟩ := Option.bind_eq_some_iff.1 h
  clear h
  dsimp only at h1
  have HN := Aside0.mk (show l.length ≤ l0.length ∧ l0.take l.length = l from ⟨by rw [← hl, List.length_take]; omega, by rw [← hl, List.length_take]; simp⟩)
  have HP := Aside0.mk hp
  have H1 := Aside0.mk h1
  have HR := Aside0.mk hr0
  clear hp h1 hr0
  have hX0 := Aside0.mk (boxc_new w #[.int .i64 q.kind, .int .u32 q.b0, .int .u32 q.b1, .int .u32 q.b2, .int .u32 q.b3, .int .u32 q.x, .int .u32 q.y, .int .u64 q.sq, .int .i64 q.k, .int .u64 q.after, .bool q.from_] 27)
  have hB0 := Aside0.mk (below_alloc' (Below.refl _ w) (.cells #[.int .i64 q.kind, .int .u32 q.b0, .int .u32 q.b1, .int .u32 q.b2, .int .u32 q.b3, .int .u32 q.x, .int .u32 q.y, .int .u64 q.sq, .int .i64 q.k, .int .u64 q.after, .bool q.from_] 27))
  unfold encQ
  go_enter Try.func6, Try.ntmps6
  go_wp2_with fail
  refine (shown_ok _).mono ?_
  rintro e w1 ⟨rfl, hb1⟩
  have B1 := Aside0.mk (below_call hB0.out hb1)
  have X1 := Aside0.mk (boxc_below hX0.out hb1)
  clear hB0 hX0 hb1
  go_wp2_with fail
  refine (few_A A0 c0 l0 _ hc0).mono ?_
  rintro e w2 ⟨rfl, hb2⟩
  have B2 := Aside0.mk (below_call B1.out hb2)
  have X2 := Aside0.mk (boxc_below X1.out hb2)
  have HL := Aside0.mk (show ∀ W, Below w.heap.size w W → Kd.C k54 W A0 l.length l from fun W hb => by have := Kd.C_take (m := l.length) (Kd.C_below HR.out hb) (HN.out.1); rw [HN.out.2] at this; exact this)
  have HLC := Aside0.mk (Nat.le_trans HN.out.1 hc0)
  rw [hl]
  clear B1 X1 hb2 HR hl hc0
  have x0 := boxc_cell X2.out 0
  have x1 := boxc_cell X2.out 1
  have x2 := boxc_cell X2.out 2
  have x3 := boxc_cell X2.out 3
  have x4 := boxc_cell X2.out 4
  have x5 := boxc_cell X2.out 5
  have x6 := boxc_cell X2.out 6
  have x7 := boxc_cell X2.out 7
  have x8 := boxc_cell X2.out 8
  have x9 := boxc_cell X2.out 9
  have x10 := boxc_cell X2.out 10
  go_wp2_with fail
  refine (Ask_calls k q A0 c0 l a x er _ (HL.out _ B2.out) HLC.out HP.out).mono ?_
  rintro e w3 ⟨v3, rfl, hR3, hb3⟩
  obtain ⟨A3, c3, rfl⟩ := Kd.R_slice hR3
  have B3 := Aside0.mk (below_call B2.out hb3)
  have X3 := Aside0.mk (boxc_below X2.out hb3)
  have hlt2 := boxc_lt X2.out
  have R3 := Aside0.mk (Kd.R_reads' hR3)
  have R4 := Aside0.mk (Kd.R_reads' (R_setc hR3 hlt2 8 (.int .i64 m)))
  clear B2 X2 hb3 hR3 hlt2 x0 x1 x2 x3 x4 x5 x6 x7 x8 x9 x10
  have x8 := boxc_cell X3.out 8
  by_cases c1 : er ≠ 0 ∨ m < q.k ∨ 64 < m
  · have h1 := H1.out
    rw [if_pos c1] at h1
    cases h1
    clear H1 HP
    by_cases c2 : er = 0
    · have e1 : (er != 0) = false := bne_eq_false_iff_eq.2 c2
      by_cases c3 : m < q.k
      · have e2 : decide (m < q.k) = true := decide_eq_true c3
        clear c1 c2 c3
        go_wp2
        go_ret
        exact ⟨rfl, B3.out⟩
      · have e2 : decide (m < q.k) = false := decide_eq_false c3
        have e3 : decide (64 < m) = true := decide_eq_true (by rcases c1 with h | h | h <;> first | exact absurd c2 h | exact absurd h c3 | exact h)
        clear c1 c2 c3
        go_wp2
        go_ret
        exact ⟨rfl, B3.out⟩
    · have e1 : (er != 0) = true := bne_iff_ne.2 c2
      clear c1 c2
      go_wp2
      go_ret
      exact ⟨rfl, B3.out⟩
  · have h1 := H1.out
    rw [if_neg c1] at h1
    obtain ⟨⟨b, y, fr⟩, hs, h2⟩ := Option.bind_eq_some_iff.1 h1
    obtain ⟨t, ht, h3⟩ := Option.bind_eq_some_iff.1 h2
    dsimp only at ht h3
    by_cases hmm : fr = 0 ∧ a.length ≤ b.length ∧ t = true ∧ (x = true ∨ a.length = b.length)
    case neg => rw [if_neg hmm] at h3; cases h3
    rw [if_pos hmm] at h3
    cases h3
    obtain ⟨rfl, hab, rfl, hx⟩ := hmm
    have HS := Aside0.mk hs
    have HT := Aside0.mk ht
    have HX := Aside0.mk hx
    have e1 : (er != 0) = false := bne_eq_false_iff_eq.2 (Decidable.byContradiction fun h => c1 (.inl h))
    have e2 : decide (m < q.k) = false := decide_eq_false fun h => c1 (.inr (.inl h))
    have e3 : decide (64 < m) = false := decide_eq_false fun h => c1 (.inr (.inr h))
    clear H1 HP h1 h2 hs ht hx c1
    have hlt := boxc_lt X3.out
    have X4 := Aside0.mk (show (w3.setCell ⟨w.heap.size, 8, none⟩ (.int .i64 m)).heap[w.heap.size]? = some (.cells #[.int .i64 q.kind, .int .u32 q.b0, .int .u32 q.b1, .int .u32 q.b2, .int .u32 q.b3, .int .u32 q.x, .int .u32 q.y, .int .u64 q.sq, .int .i64 m, .int .u64 q.after, .bool q.from_] 27 (0, 0)) from boxc_set X3.out 8 (.int .i64 m))
    have f8 := boxc_frozen X3.out 8
    have z0 := boxc_cell X4.out 0
    have z1 := boxc_cell X4.out 1
    have z2 := boxc_cell X4.out 2
    have z3 := boxc_cell X4.out 3
    have z4 := boxc_cell X4.out 4
    have z5 := boxc_cell X4.out 5
    have z6 := boxc_cell X4.out 6
    have z7 := boxc_cell X4.out 7
    have z8 := boxc_cell X4.out 8
    have z9 := boxc_cell X4.out 9
    have z10 := boxc_cell X4.out 10
    have B4' := Aside0.mk (below_set (j := 8) (v := .int .i64 m) B3.out (Nat.le_refl w.heap.size))
    go_wp2_with fail
    refine (Ask_calls k { q with k := m } A0 c0 l b y 0 _ (HL.out _ B4'.out) HLC.out HS.out).mono ?_
    rintro e w5 ⟨v5, rfl, hR5, hb5⟩
    obtain ⟨A5, c5, rfl⟩ := Kd.R_slice hR5
    have B5 := Aside0.mk (below_call B4'.out hb5)
    have R5 := Aside0.mk (Kd.R_reads' hR5)
    have C3 := Aside0.mk (Kd.C_below R4.out.2.2 hb5)
    clear hR5 hb5 z0 z1 z2 z3 z4 z5 z6 z7 z8 z9 z10 f8 X4 B4' X3 x8 R4
    obtain ⟨i05, hi05, _, hsz5, _⟩ := info_parts info54
    have hcut5 := cut_to (P := Try.prog) 32 54 .i64 Try.underlying32 hi05 A5 b.length c5 (a.length : Int) (by omega) (by omega) R5.out.2.1
    rw [Int.toNat_natCast] at hcut5
    clear hi05 hsz5
    have hle : decide ((a.length : Int) ≤ (b.length : Int)) = true := decide_eq_true (by omega)
    have HSame := sphragisref09_Same.calls k A3 c3 a A5 c5 (b.take a.length) true w5 C3.out R3.out.2.1 (Kd.C_take R5.out.2.2 hab) (by have := R5.out.2.1; rw [List.length_take]; omega) HT.out
    rw [show (b.take a.length).length = a.length by rw [List.length_take]; omega] at HSame
    have HSM := Aside0.mk HSame
    clear HSame
    go_wp2_with fail
    refine HSM.out.mono ?_
    rintro e w6 ⟨rfl, hb6'⟩
    have hb6 := hb6'.below
    have B6 := Aside0.mk (below_call B5.out hb6)
    clear HSM hb6 hb6' hcut5
    cases x with
    | true =>
      clear HX
      go_wp2
      go_ret
      exact ⟨rfl, B6.out⟩
    | false =>
      have hbe : ((a.length : Int) == (b.length : Int)) = true := beq_iff_eq.2 (by have := HX.out; simp at this; omega)
      clear HX
      go_wp2
      go_ret
      exact ⟨rfl, B6.out⟩
end Go.Proofs.Ytoimgijhekahhaa.P

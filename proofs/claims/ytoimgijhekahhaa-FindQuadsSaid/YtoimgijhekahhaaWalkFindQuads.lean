/- Layer 11: the law FindQuads, walked. -/
import Derived.Test.YtoimgijhekahhaaShP
import Derived.Test.YtoimgijhekahhaaPx801
import Derived.Test.YtoimgijhekahhaaPx9
import Derived.Test.YtoimgijhekahhaaPx901
import Derived.Test.YtoimgijhekahhaaPx903
namespace Go.Proofs.Ytoimgijhekahhaa.P
open Go.RowKit Go.Proofs.YtoimgijhekahhaaOwn Go.Proofs.YtoimgijhekahhaaW.PrintWords Go.Proofs.YtoimgijhekahhaaW.PrintLast Go.Proofs.YtoimgijhekahhaaW.PrintMore
set_option linter.unusedVariables false
set_option linter.unusedSimpArgs false
attribute [local go_sem] max2_int max_two min_two
def wantR (k : Nat) (n : Nod) (R : List S54) (len : Int) (q : Q11) : Option (List S54) :=
  if q.kind = 1 then (quad_Window.f k n.1 n.2.1 n.2.2.1 n.2.2.2.1 n.2.2.2.2 q.b0 q.b1 q.b2 q.b3).map (·.1) else if q.kind = 2 then (quad_Round.f k n.1 n.2.1 n.2.2.1 n.2.2.2.1 n.2.2.2.2 q.x q.y q.sq).map (·.1)
  else if q.kind = 3 then (quad_Near.f k n.1 n.2.1 n.2.2.1 n.2.2.2.1 n.2.2.2.2 q.x q.y len).map (·.1) else some R
/-- What the law asks of what is given (a, more) and what the tree has there (W). -/
def quadsC (k : Nat) (q : Q11) (a : List S54) (more : Bool) (W : List S54) : Prop :=
  a.length ≤ W.length ∧ (¬ (q.from_ = true ∧ q.kind ≠ 3) → sphragisref09_Same.f k a (W.take a.length) = some true ∧ more = decide (a.length < W.length) ∧ (if (W.length : Int) < q.k then (W.length : Int) else q.k) = (a.length : Int))
/-- The law, as far as the walk asks. -/
def FindQuadsC (k : Nat) (l : List S54) (q : Q11) : Prop :=
  ∃ (n : Nod) (er : Int) (a : List S54) (more : Bool) (fr : Int), quad_Build.f k l = some (n.1, n.2.1, n.2.2.1, n.2.2.2.1, n.2.2.2.2, er) ∧ AskF k l q = some (a, more, fr) ∧
    ((er ≠ 0 ∨ fr ≠ 0) ∧ (er = 0 ∨ fr = 80) ∨ er = 0 ∧ fr = 0 ∧ ∃ R W, quad_Rows.f k n.1 n.2.1 n.2.2.1 n.2.2.2.1 n.2.2.2.2 = some R ∧ wantR k n R (l.length : Int) q = some W ∧ quadsC k q a more W)
set_option maxRecDepth 100000 in
set_option maxHeartbeats 16000000 in
theorem sphragislaw11_FindQuads.calls (k : Nat) (A0 : Option Addr) (c0 : Nat) (l0 : List S54) (q : Q11) (r : Bool) (w : World) (hr0 : Kd.C k54 w A0 l0.length l0) (hc0 : l0.length ≤ c0) (h : r = true ∧ FindQuadsC k (l0.take 60) q) :
    Calls Try.prog 5 #[.slice A0 l0.length c0, .agg (encQ q)] w fun e w' => e = .returned (.bool r) ∧ Below w.heap.size w w' := by
  obtain ⟨rfl, h⟩ := h
  obtain ⟨l, hl⟩ : ∃ l, l0.take 60 = l := ⟨_, rfl⟩
  rw [hl] at h
  obtain ⟨n, er, a, more, fr, hb, ha, hcc⟩ := h
  have HN := Aside0.mk (show l.length ≤ l0.length ∧ l0.take l.length = l from ⟨by rw [← hl, List.length_take]; omega, by rw [← hl, List.length_take]; simp⟩)
  have HBU := Aside0.mk hb
  have HAS := Aside0.mk ha
  have HCC := Aside0.mk hcc
  have HR := Aside0.mk hr0
  clear hb ha hcc hr0
  have X0 := Aside0.mk (boxc_new w #[.int .i64 q.kind, .int .u32 q.b0, .int .u32 q.b1, .int .u32 q.b2, .int .u32 q.b3, .int .u32 q.x, .int .u32 q.y, .int .u64 q.sq, .int .i64 q.k, .int .u64 q.after, .bool q.from_] 27)
  have B0 := Aside0.mk (below_alloc' (Below.refl _ w) (.cells #[.int .i64 q.kind, .int .u32 q.b0, .int .u32 q.b1, .int .u32 q.b2, .int .u32 q.b3, .int .u32 q.x, .int .u32 q.y, .int .u64 q.sq, .int .i64 q.k, .int .u64 q.after, .bool q.from_] 27))
  have hu := Try.underlying42
  unfold encQ
  go_enter Try.func5, Try.ntmps5
  go_wp2_with fail
  refine (shown_ok _).mono ?_
  rintro e w1 ⟨rfl, hb1⟩
  have B1 := Aside0.mk (below_call B0.out hb1)
  have X1 := Aside0.mk (boxc_below X0.out hb1)
  clear B0 X0 hb1
  go_wp2_with fail
  refine (few_A A0 c0 l0 _ hc0).mono ?_
  rintro e w2 ⟨rfl, hb2⟩
  have B2 := Aside0.mk (below_call B1.out hb2)
  have X2 := Aside0.mk (boxc_below X1.out hb2)
  have HL := Aside0.mk (show ∀ W, Below w.heap.size w W → Kd.C k54 W A0 l.length l from fun W hb => by have := Kd.C_take (m := l.length) (Kd.C_below HR.out hb) (HN.out.1); rw [HN.out.2] at this; exact this)
  have HLC := Aside0.mk (Nat.le_trans HN.out.1 hc0)
  rw [hl]
  clear B1 X1 hb2 HR hl hc0
  go_wp2_with fail
  refine (build_callsT k A0 c0 l n er _ (HL.out _ B2.out) HLC.out HBU.out).mono ?_
  rintro e w3 ⟨A3, c3, A4, c4, rfl, hT3, hb3⟩
  obtain ⟨w4, hw4⟩ : ∃ w4, w3.alloc (.cells #[.int .u32 n.1, .int .u32 n.2.1, .int .i64 n.2.2.1, .slice A3 n.2.2.2.1.length c3, .slice A4 n.2.2.2.2.length c4] 42) = w4 := ⟨_, rfl⟩
  have B4 := Aside0.mk (show Below w.heap.size w w4 by rw [← hw4]; exact below_alloc' (below_call B2.out hb3) _)
  have X4 := Aside0.mk (show w4.heap[w.heap.size]? = some (.cells #[.int .i64 q.kind, .int .u32 q.b0, .int .u32 q.b1, .int .u32 q.b2, .int .u32 q.b3, .int .u32 q.x, .int .u32 q.y, .int .u64 q.sq, .int .i64 q.k, .int .u64 q.after, .bool q.from_] 27 (0, 0)) by rw [← hw4]; exact boxc_alloc (boxc_below X2.out hb3) _)
  have M4 := Aside0.mk (show w4.heap[w3.heap.size]? = some (.cells #[.int .u32 n.1, .int .u32 n.2.1, .int .i64 n.2.2.1, .slice A3 n.2.2.2.1.length c3, .slice A4 n.2.2.2.2.length c4] 42 (0, 0)) by rw [← hw4]; exact boxc_new w3 _ _)
  have T4 := Aside0.mk (show TreeAt w4 n A3 c3 A4 c4 by rw [← hw4]; exact hT3.at_.below (below_alloc' (Below.refl _ w3) _))
  clear B2 X2 hb3 hT3
  have x0 := boxc_cell X4.out 0
  have x1 := boxc_cell X4.out 1
  have x2 := boxc_cell X4.out 2
  have x3 := boxc_cell X4.out 3
  have x4 := boxc_cell X4.out 4
  have x5 := boxc_cell X4.out 5
  have x6 := boxc_cell X4.out 6
  have x7 := boxc_cell X4.out 7
  have x8 := boxc_cell X4.out 8
  have x9 := boxc_cell X4.out 9
  have x10 := boxc_cell X4.out 10
  go_wp2_with fail
  refine (Ask_calls k q A0 c0 l a more fr _ (HL.out _ B4.out) HLC.out HAS.out).mono ?_
  rintro e w5 ⟨v5, rfl, hR5, hb5⟩
  obtain ⟨A5, c5, rfl⟩ := Kd.R_slice hR5
  have RA5 := Aside0.mk (Kd.R_reads' hR5).2.2
  have LA := Aside0.mk (Kd.R_reads' hR5).2.1
  clear hR5 x0 x1 x2 x3 x4 x5 x6 x7 x8 x9 x10 hw4
  have B5 := Aside0.mk (below_call B4.out hb5)
  have X5 := Aside0.mk (boxc_below X4.out hb5)
  have M5 := Aside0.mk (boxc_below M4.out hb5)
  have T5 := Aside0.mk (T4.out.below hb5)
  clear B4 X4 M4 T4 hb5
  rcases HCC.out with ⟨h1, h2⟩ | ⟨rfl, rfl, R, W, hR, hw, hC⟩
  · clear HCC
    by_cases he : er = 0
    · have e1 : (er != 0) = false := bne_eq_false_iff_eq.2 he
      have e1' : (er == 0) = true := beq_iff_eq.2 he
      have e2 : (fr != 0) = true := bne_iff_ne.2 (by rcases h1 with h | h <;> first | exact absurd he h | exact h)
      clear h1 h2 he
      go_wp2
      go_ret
      exact ⟨by simp, B5.out⟩
    · have e1 : (er != 0) = true := bne_iff_ne.2 he
      have e1' : (er == 0) = false := beq_eq_false_iff_ne.2 he
      have e2 : (fr == 80) = true := beq_iff_eq.2 (by rcases h2 with h | h <;> first | exact absurd h he | exact h)
      clear h1 h2 he
      go_wp2
      go_ret
      exact ⟨by simp, B5.out⟩
  have HLE := Aside0.mk hC.1
  have HC := Aside0.mk hC.2
  have HRO := Aside0.mk hR
  clear HCC hC hR
  have m0 := boxc_cell M5.out 0
  have m1 := boxc_cell M5.out 1
  have m2 := boxc_cell M5.out 2
  have m3 := boxc_cell M5.out 3
  have m4 := boxc_cell M5.out 4
  go_wp2_with fail
  refine (quad_Rows.calls k n.1 n.2.1 n.2.2.1 A3 c3 n.2.2.2.1 A4 c4 n.2.2.2.2 R _ T5.out.C3 T5.out.h3 T5.out.C4 T5.out.h4 HRO.out).mono ?_
  rintro e w6 ⟨v6, rfl, hR6, hb6⟩
  obtain ⟨A6, c6, rfl⟩ := Kd.R_slice hR6
  have RR6 := Aside0.mk (Kd.R_reads' hR6).2.2
  have LR := Aside0.mk (Kd.R_reads' hR6).2.1
  clear hR6 m0 m1 m2 m3 m4
  have B6 := Aside0.mk (below_call B5.out hb6)
  have X6 := Aside0.mk (boxc_below X5.out hb6)
  have M6 := Aside0.mk (boxc_below M5.out hb6)
  have T6 := Aside0.mk (T5.out.below hb6)
  have RA6 := Aside0.mk (Kd.C_below RA5.out hb6)
  clear B5 X5 M5 T5 hb6 RA5
  unfold wantR at hw
  by_cases k1 : q.kind = 1
  · rw [if_pos k1] at hw
    have e1 : (q.kind == 1) = true := beq_iff_eq.2 k1
    have K1 := Aside0.mk k1
    clear k1
    obtain ⟨⟨W2, we⟩, hwin, hww⟩ := Option.map_eq_some_iff.1 hw
    obtain rfl : W = W2 := hww.symm
    have HW := Aside0.mk hwin
    clear hw hwin hww
    have x0 := boxc_cell X6.out 0
    have x1 := boxc_cell X6.out 1
    have x2 := boxc_cell X6.out 2
    have x3 := boxc_cell X6.out 3
    have x4 := boxc_cell X6.out 4
    have x5 := boxc_cell X6.out 5
    have x6 := boxc_cell X6.out 6
    have x7 := boxc_cell X6.out 7
    have x8 := boxc_cell X6.out 8
    have x9 := boxc_cell X6.out 9
    have x10 := boxc_cell X6.out 10
    have m0 := boxc_cell M6.out 0
    have m1 := boxc_cell M6.out 1
    have m2 := boxc_cell M6.out 2
    have m3 := boxc_cell M6.out 3
    have m4 := boxc_cell M6.out 4
    go_wp2_with fail
    refine (quad_Window.calls k n.1 n.2.1 n.2.2.1 A3 c3 n.2.2.2.1 A4 c4 n.2.2.2.2 q.b0 q.b1 q.b2 q.b3 W we _ T6.out.C3 T6.out.h3 T6.out.C4 T6.out.h4 HW.out).mono ?_
    rintro e w7 ⟨v7, rfl, hR7, hb7⟩
    obtain ⟨Aw, cw, rfl⟩ := Kd.R_slice hR7
    have RW7 := Aside0.mk (Kd.R_reads' hR7).2.2
    have LW := Aside0.mk (Kd.R_reads' hR7).2.1
    clear hR7 RR6 LR x0 x1 x2 x3 x4 x5 x6 x7 x8 x9 x10 m0 m1 m2 m3 m4
    have B7 := Aside0.mk (below_call B6.out hb7)
    have X7 := Aside0.mk (boxc_below X6.out hb7)
    have M7 := Aside0.mk (boxc_below M6.out hb7)
    have T7 := Aside0.mk (T6.out.below hb7)
    have RA7 := Aside0.mk (Kd.C_below RA6.out hb7)
    clear B6 X6 M6 T6 hb7 RA6
    have x0 := boxc_cell X7.out 0
    have x10 := boxc_cell X7.out 10
    have hle : decide ((a.length : Int) ≤ (W.length : Int)) = true := decide_eq_true (by have := HLE.out; omega)
    have hle2 : decide (a.length ≤ W.length) = true := decide_eq_true HLE.out
    by_cases hf : q.from_ = true ∧ q.kind ≠ 3
    · have hfr := hf.1
      have hk3 : (q.kind != 3) = true := bne_iff_ne.2 hf.2
      clear HC
      rw [hfr] at x10
      clear hf
      go_wp2
      go_ret
      exact ⟨rfl, B7.out⟩
    · obtain ⟨ht, hmore, hmm⟩ := HC.out hf
      have HSame := sphragisref09_Same.calls k A5 c5 a Aw cw (W.take a.length) true _ RA7.out LA.out (Kd.C_take RW7.out HLE.out) (by have := LW.out; have := HLE.out; rw [List.length_take]; omega) ht
      rw [show (W.take a.length).length = a.length by rw [List.length_take]; exact Nat.min_eq_left HLE.out] at HSame
      have HSM := Aside0.mk HSame
      have HMM := Aside0.mk hmm
      have HMO := Aside0.mk hmore
      clear HSame ht hmm hmore
      obtain ⟨i05, hi05, _, hsz5, _⟩ := info_parts info54
      have hcut5 := cut_to (P := Try.prog) 32 54 .i64 Try.underlying32 hi05 Aw W.length cw (a.length : Int) (by omega) (by have := HLE.out; omega) LW.out
      rw [Int.toNat_natCast] at hcut5
      clear hi05 hsz5
      have hmin : Builtin.min2 (.int .i64 q.k) (.int .i64 (W.length : Int)) = pure (.int .i64 (a.length : Int)) := by
        rw [min2_int]
        exact congrArg (fun x => (pure (Value.int .i64 x) : Sem Value)) HMM.out
      by_cases hfr : q.from_ = true
      · have hk3 : (q.kind != 3) = false := bne_eq_false_iff_eq.2 (Decidable.byContradiction fun h => hf ⟨hfr, h⟩)
        rw [hfr] at x10
        clear hf
        go_wp2_with fail
        refine HSM.out.mono ?_
        rintro e w9 ⟨rfl, hb9'⟩
        have hb9 := hb9'.below
        have X9 := Aside0.mk (boxc_below X7.out hb9)
        have B9 := Aside0.mk (below_call B7.out hb9)
        have x8 := boxc_cell X9.out 8
        have hme := HMO.out
        obtain ⟨dd, hdd⟩ : ∃ dd, decide ((a.length : Int) < (W.length : Int)) = dd := ⟨_, rfl⟩
        have hxe : more = dd := by rw [hme, ← hdd]; exact decide_eq_decide.2 (by omega)
        have hdd2 : decide (a.length < W.length) = dd := hme.symm.trans hxe
        clear hb9 hb9' hcut5 HSM hme HMO
        subst hxe
        go_wp2
        go_ret
        exact ⟨by simp, B9.out⟩
      · have hfr2 : q.from_ = false := by simpa using hfr
        rw [hfr2] at x10
        clear hf hfr
        go_wp2_with fail
        refine HSM.out.mono ?_
        rintro e w9 ⟨rfl, hb9'⟩
        have hb9 := hb9'.below
        have X9 := Aside0.mk (boxc_below X7.out hb9)
        have B9 := Aside0.mk (below_call B7.out hb9)
        have x8 := boxc_cell X9.out 8
        have hme := HMO.out
        obtain ⟨dd, hdd⟩ : ∃ dd, decide ((a.length : Int) < (W.length : Int)) = dd := ⟨_, rfl⟩
        have hxe : more = dd := by rw [hme, ← hdd]; exact decide_eq_decide.2 (by omega)
        have hdd2 : decide (a.length < W.length) = dd := hme.symm.trans hxe
        clear hb9 hb9' hcut5 HSM hme HMO
        subst hxe
        go_wp2
        go_ret
        exact ⟨by simp, B9.out⟩
  by_cases k2 : q.kind = 2
  · rw [if_neg k1, if_pos k2] at hw
    have e1 : (q.kind == 1) = false := beq_eq_false_iff_ne.2 k1
    have e2 : (q.kind == 2) = true := beq_iff_eq.2 k2
    have K1 := Aside0.mk k1
    have K2 := Aside0.mk k2
    clear k1 k2
    obtain ⟨⟨W2, we⟩, hwin, hww⟩ := Option.map_eq_some_iff.1 hw
    obtain rfl : W = W2 := hww.symm
    have HW := Aside0.mk hwin
    clear hw hwin hww
    have x0 := boxc_cell X6.out 0
    have x1 := boxc_cell X6.out 1
    have x2 := boxc_cell X6.out 2
    have x3 := boxc_cell X6.out 3
    have x4 := boxc_cell X6.out 4
    have x5 := boxc_cell X6.out 5
    have x6 := boxc_cell X6.out 6
    have x7 := boxc_cell X6.out 7
    have x8 := boxc_cell X6.out 8
    have x9 := boxc_cell X6.out 9
    have x10 := boxc_cell X6.out 10
    have m0 := boxc_cell M6.out 0
    have m1 := boxc_cell M6.out 1
    have m2 := boxc_cell M6.out 2
    have m3 := boxc_cell M6.out 3
    have m4 := boxc_cell M6.out 4
    go_wp2_with fail
    refine (quad_Round.calls k n.1 n.2.1 n.2.2.1 A3 c3 n.2.2.2.1 A4 c4 n.2.2.2.2 q.x q.y q.sq W we _ T6.out.C3 T6.out.h3 T6.out.C4 T6.out.h4 HW.out).mono ?_
    rintro e w7 ⟨v7, rfl, hR7, hb7⟩
    obtain ⟨Aw, cw, rfl⟩ := Kd.R_slice hR7
    have RW7 := Aside0.mk (Kd.R_reads' hR7).2.2
    have LW := Aside0.mk (Kd.R_reads' hR7).2.1
    clear hR7 RR6 LR x0 x1 x2 x3 x4 x5 x6 x7 x8 x9 x10 m0 m1 m2 m3 m4
    have B7 := Aside0.mk (below_call B6.out hb7)
    have X7 := Aside0.mk (boxc_below X6.out hb7)
    have M7 := Aside0.mk (boxc_below M6.out hb7)
    have T7 := Aside0.mk (T6.out.below hb7)
    have RA7 := Aside0.mk (Kd.C_below RA6.out hb7)
    clear B6 X6 M6 T6 hb7 RA6
    have x0 := boxc_cell X7.out 0
    have x10 := boxc_cell X7.out 10
    have hle : decide ((a.length : Int) ≤ (W.length : Int)) = true := decide_eq_true (by have := HLE.out; omega)
    have hle2 : decide (a.length ≤ W.length) = true := decide_eq_true HLE.out
    by_cases hf : q.from_ = true ∧ q.kind ≠ 3
    · have hfr := hf.1
      have hk3 : (q.kind != 3) = true := bne_iff_ne.2 hf.2
      clear HC
      rw [hfr] at x10
      clear hf
      go_wp2
      go_ret
      exact ⟨rfl, B7.out⟩
    · obtain ⟨ht, hmore, hmm⟩ := HC.out hf
      have HSame := sphragisref09_Same.calls k A5 c5 a Aw cw (W.take a.length) true _ RA7.out LA.out (Kd.C_take RW7.out HLE.out) (by have := LW.out; have := HLE.out; rw [List.length_take]; omega) ht
      rw [show (W.take a.length).length = a.length by rw [List.length_take]; exact Nat.min_eq_left HLE.out] at HSame
      have HSM := Aside0.mk HSame
      have HMM := Aside0.mk hmm
      have HMO := Aside0.mk hmore
      clear HSame ht hmm hmore
      obtain ⟨i05, hi05, _, hsz5, _⟩ := info_parts info54
      have hcut5 := cut_to (P := Try.prog) 32 54 .i64 Try.underlying32 hi05 Aw W.length cw (a.length : Int) (by omega) (by have := HLE.out; omega) LW.out
      rw [Int.toNat_natCast] at hcut5
      clear hi05 hsz5
      have hmin : Builtin.min2 (.int .i64 q.k) (.int .i64 (W.length : Int)) = pure (.int .i64 (a.length : Int)) := by
        rw [min2_int]
        exact congrArg (fun x => (pure (Value.int .i64 x) : Sem Value)) HMM.out
      by_cases hfr : q.from_ = true
      · have hk3 : (q.kind != 3) = false := bne_eq_false_iff_eq.2 (Decidable.byContradiction fun h => hf ⟨hfr, h⟩)
        rw [hfr] at x10
        clear hf
        go_wp2_with fail
        refine HSM.out.mono ?_
        rintro e w9 ⟨rfl, hb9'⟩
        have hb9 := hb9'.below
        have X9 := Aside0.mk (boxc_below X7.out hb9)
        have B9 := Aside0.mk (below_call B7.out hb9)
        have x8 := boxc_cell X9.out 8
        have hme := HMO.out
        obtain ⟨dd, hdd⟩ : ∃ dd, decide ((a.length : Int) < (W.length : Int)) = dd := ⟨_, rfl⟩
        have hxe : more = dd := by rw [hme, ← hdd]; exact decide_eq_decide.2 (by omega)
        have hdd2 : decide (a.length < W.length) = dd := hme.symm.trans hxe
        clear hb9 hb9' hcut5 HSM hme HMO
        subst hxe
        go_wp2
        go_ret
        exact ⟨by simp, B9.out⟩
      · have hfr2 : q.from_ = false := by simpa using hfr
        rw [hfr2] at x10
        clear hf hfr
        go_wp2_with fail
        refine HSM.out.mono ?_
        rintro e w9 ⟨rfl, hb9'⟩
        have hb9 := hb9'.below
        have X9 := Aside0.mk (boxc_below X7.out hb9)
        have B9 := Aside0.mk (below_call B7.out hb9)
        have x8 := boxc_cell X9.out 8
        have hme := HMO.out
        obtain ⟨dd, hdd⟩ : ∃ dd, decide ((a.length : Int) < (W.length : Int)) = dd := ⟨_, rfl⟩
        have hxe : more = dd := by rw [hme, ← hdd]; exact decide_eq_decide.2 (by omega)
        have hdd2 : decide (a.length < W.length) = dd := hme.symm.trans hxe
        clear hb9 hb9' hcut5 HSM hme HMO
        subst hxe
        go_wp2
        go_ret
        exact ⟨by simp, B9.out⟩
  by_cases k3 : q.kind = 3
  · rw [if_neg k1, if_neg k2, if_pos k3] at hw
    have e1 : (q.kind == 1) = false := beq_eq_false_iff_ne.2 k1
    have e2 : (q.kind == 2) = false := beq_eq_false_iff_ne.2 k2
    have e3 : (q.kind == 3) = true := beq_iff_eq.2 k3
    have K1 := Aside0.mk k1
    have K2 := Aside0.mk k2
    have K3 := Aside0.mk k3
    clear k1 k2 k3
    obtain ⟨⟨W2, we⟩, hwin, hww⟩ := Option.map_eq_some_iff.1 hw
    obtain rfl : W = W2 := hww.symm
    have HW := Aside0.mk hwin
    clear hw hwin hww
    have x0 := boxc_cell X6.out 0
    have x1 := boxc_cell X6.out 1
    have x2 := boxc_cell X6.out 2
    have x3 := boxc_cell X6.out 3
    have x4 := boxc_cell X6.out 4
    have x5 := boxc_cell X6.out 5
    have x6 := boxc_cell X6.out 6
    have x7 := boxc_cell X6.out 7
    have x8 := boxc_cell X6.out 8
    have x9 := boxc_cell X6.out 9
    have x10 := boxc_cell X6.out 10
    have m0 := boxc_cell M6.out 0
    have m1 := boxc_cell M6.out 1
    have m2 := boxc_cell M6.out 2
    have m3 := boxc_cell M6.out 3
    have m4 := boxc_cell M6.out 4
    go_wp2_with fail
    refine (quad_Near.calls k n.1 n.2.1 n.2.2.1 A3 c3 n.2.2.2.1 A4 c4 n.2.2.2.2 q.x q.y (l.length : Int) W we _ T6.out.C3 T6.out.h3 T6.out.C4 T6.out.h4 HW.out).mono ?_
    rintro e w7 ⟨v7, rfl, hR7, hb7⟩
    obtain ⟨Aw, cw, rfl⟩ := Kd.R_slice hR7
    have RW7 := Aside0.mk (Kd.R_reads' hR7).2.2
    have LW := Aside0.mk (Kd.R_reads' hR7).2.1
    clear hR7 RR6 LR x0 x1 x2 x3 x4 x5 x6 x7 x8 x9 x10 m0 m1 m2 m3 m4
    have B7 := Aside0.mk (below_call B6.out hb7)
    have X7 := Aside0.mk (boxc_below X6.out hb7)
    have M7 := Aside0.mk (boxc_below M6.out hb7)
    have T7 := Aside0.mk (T6.out.below hb7)
    have RA7 := Aside0.mk (Kd.C_below RA6.out hb7)
    clear B6 X6 M6 T6 hb7 RA6
    have x0 := boxc_cell X7.out 0
    have x10 := boxc_cell X7.out 10
    have hle : decide ((a.length : Int) ≤ (W.length : Int)) = true := decide_eq_true (by have := HLE.out; omega)
    have hle2 : decide (a.length ≤ W.length) = true := decide_eq_true HLE.out
    by_cases hf : q.from_ = true ∧ q.kind ≠ 3
    · exact absurd K3.out hf.2
    · obtain ⟨ht, hmore, hmm⟩ := HC.out hf
      have HSame := sphragisref09_Same.calls k A5 c5 a Aw cw (W.take a.length) true _ RA7.out LA.out (Kd.C_take RW7.out HLE.out) (by have := LW.out; have := HLE.out; rw [List.length_take]; omega) ht
      rw [show (W.take a.length).length = a.length by rw [List.length_take]; exact Nat.min_eq_left HLE.out] at HSame
      have HSM := Aside0.mk HSame
      have HMM := Aside0.mk hmm
      have HMO := Aside0.mk hmore
      clear HSame ht hmm hmore
      obtain ⟨i05, hi05, _, hsz5, _⟩ := info_parts info54
      have hcut5 := cut_to (P := Try.prog) 32 54 .i64 Try.underlying32 hi05 Aw W.length cw (a.length : Int) (by omega) (by have := HLE.out; omega) LW.out
      rw [Int.toNat_natCast] at hcut5
      clear hi05 hsz5
      have hmin : Builtin.min2 (.int .i64 q.k) (.int .i64 (W.length : Int)) = pure (.int .i64 (a.length : Int)) := by
        rw [min2_int]
        exact congrArg (fun x => (pure (Value.int .i64 x) : Sem Value)) HMM.out
      by_cases hfr : q.from_ = true
      · have hk3 : (q.kind != 3) = false := bne_eq_false_iff_eq.2 (Decidable.byContradiction fun h => hf ⟨hfr, h⟩)
        rw [hfr] at x10
        clear hf
        go_wp2_with fail
        refine HSM.out.mono ?_
        rintro e w9 ⟨rfl, hb9'⟩
        have hb9 := hb9'.below
        have X9 := Aside0.mk (boxc_below X7.out hb9)
        have B9 := Aside0.mk (below_call B7.out hb9)
        have x8 := boxc_cell X9.out 8
        have hme := HMO.out
        obtain ⟨dd, hdd⟩ : ∃ dd, decide ((a.length : Int) < (W.length : Int)) = dd := ⟨_, rfl⟩
        have hxe : more = dd := by rw [hme, ← hdd]; exact decide_eq_decide.2 (by omega)
        have hdd2 : decide (a.length < W.length) = dd := hme.symm.trans hxe
        clear hb9 hb9' hcut5 HSM hme HMO
        subst hxe
        go_wp2
        go_ret
        exact ⟨by simp, B9.out⟩
      · have hfr2 : q.from_ = false := by simpa using hfr
        rw [hfr2] at x10
        clear hf hfr
        go_wp2_with fail
        refine HSM.out.mono ?_
        rintro e w9 ⟨rfl, hb9'⟩
        have hb9 := hb9'.below
        have X9 := Aside0.mk (boxc_below X7.out hb9)
        have B9 := Aside0.mk (below_call B7.out hb9)
        have x8 := boxc_cell X9.out 8
        have hme := HMO.out
        obtain ⟨dd, hdd⟩ : ∃ dd, decide ((a.length : Int) < (W.length : Int)) = dd := ⟨_, rfl⟩
        have hxe : more = dd := by rw [hme, ← hdd]; exact decide_eq_decide.2 (by omega)
        have hdd2 : decide (a.length < W.length) = dd := hme.symm.trans hxe
        clear hb9 hb9' hcut5 HSM hme HMO
        subst hxe
        go_wp2
        go_ret
        exact ⟨by simp, B9.out⟩
  · rw [if_neg k1, if_neg k2, if_neg k3] at hw
    have e1 : (q.kind == 1) = false := beq_eq_false_iff_ne.2 k1
    have e2 : (q.kind == 2) = false := beq_eq_false_iff_ne.2 k2
    have e3 : (q.kind == 3) = false := beq_eq_false_iff_ne.2 k3
    have K1 := Aside0.mk k1
    have K2 := Aside0.mk k2
    have K3 := Aside0.mk k3
    clear k1 k2 k3
    obtain rfl : W = R := by simpa using hw.symm
    clear hw
    have x0 := boxc_cell X6.out 0
    have RW6 := RR6
    have LW := LR
    have x10 := boxc_cell X6.out 10
    have hle : decide ((a.length : Int) ≤ (W.length : Int)) = true := decide_eq_true (by have := HLE.out; omega)
    have hle2 : decide (a.length ≤ W.length) = true := decide_eq_true HLE.out
    by_cases hf : q.from_ = true ∧ q.kind ≠ 3
    · have hfr := hf.1
      have hk3 : (q.kind != 3) = true := bne_iff_ne.2 hf.2
      clear HC
      rw [hfr] at x10
      clear hf
      go_wp2
      go_ret
      exact ⟨rfl, B6.out⟩
    · obtain ⟨ht, hmore, hmm⟩ := HC.out hf
      have HSame := sphragisref09_Same.calls k A5 c5 a A6 c6 (W.take a.length) true _ RA6.out LA.out (Kd.C_take RW6.out HLE.out) (by have := LW.out; have := HLE.out; rw [List.length_take]; omega) ht
      rw [show (W.take a.length).length = a.length by rw [List.length_take]; exact Nat.min_eq_left HLE.out] at HSame
      have HSM := Aside0.mk HSame
      have HMM := Aside0.mk hmm
      have HMO := Aside0.mk hmore
      clear HSame ht hmm hmore
      obtain ⟨i05, hi05, _, hsz5, _⟩ := info_parts info54
      have hcut5 := cut_to (P := Try.prog) 32 54 .i64 Try.underlying32 hi05 A6 W.length c6 (a.length : Int) (by omega) (by have := HLE.out; omega) LW.out
      rw [Int.toNat_natCast] at hcut5
      clear hi05 hsz5
      have hmin : Builtin.min2 (.int .i64 q.k) (.int .i64 (W.length : Int)) = pure (.int .i64 (a.length : Int)) := by
        rw [min2_int]
        exact congrArg (fun x => (pure (Value.int .i64 x) : Sem Value)) HMM.out
      by_cases hfr : q.from_ = true
      · have hk3 : (q.kind != 3) = false := bne_eq_false_iff_eq.2 (Decidable.byContradiction fun h => hf ⟨hfr, h⟩)
        rw [hfr] at x10
        clear hf
        go_wp2_with fail
        refine HSM.out.mono ?_
        rintro e w9 ⟨rfl, hb9'⟩
        have hb9 := hb9'.below
        have X9 := Aside0.mk (boxc_below X6.out hb9)
        have B9 := Aside0.mk (below_call B6.out hb9)
        have x8 := boxc_cell X9.out 8
        have hme := HMO.out
        obtain ⟨dd, hdd⟩ : ∃ dd, decide ((a.length : Int) < (W.length : Int)) = dd := ⟨_, rfl⟩
        have hxe : more = dd := by rw [hme, ← hdd]; exact decide_eq_decide.2 (by omega)
        have hdd2 : decide (a.length < W.length) = dd := hme.symm.trans hxe
        clear hb9 hb9' hcut5 HSM hme HMO
        subst hxe
        go_wp2
        go_ret
        exact ⟨by simp, B9.out⟩
      · have hfr2 : q.from_ = false := by simpa using hfr
        rw [hfr2] at x10
        clear hf hfr
        go_wp2_with fail
        refine HSM.out.mono ?_
        rintro e w9 ⟨rfl, hb9'⟩
        have hb9 := hb9'.below
        have X9 := Aside0.mk (boxc_below X6.out hb9)
        have B9 := Aside0.mk (below_call B6.out hb9)
        have x8 := boxc_cell X9.out 8
        have hme := HMO.out
        obtain ⟨dd, hdd⟩ : ∃ dd, decide ((a.length : Int) < (W.length : Int)) = dd := ⟨_, rfl⟩
        have hxe : more = dd := by rw [hme, ← hdd]; exact decide_eq_decide.2 (by omega)
        have hdd2 : decide (a.length < W.length) = dd := hme.symm.trans hxe
        clear hb9 hb9' hcut5 HSM hme HMO
        subst hxe
        go_wp2
        go_ret
        exact ⟨by simp, B9.out⟩
end Go.Proofs.Ytoimgijhekahhaa.P

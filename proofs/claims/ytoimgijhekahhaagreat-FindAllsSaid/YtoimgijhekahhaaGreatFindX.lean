/- Layer 11: what the reference's query asks for, and gives (sphragisref11.asked, Ask). -/
import Derived.Test.YtoimgijhekahhaaGreatFindW
import Derived.Test.YtoimgijhekahhaaGreatSqX
import Derived.Test.YtoimgijhekahhaaGreatPx1101
import Derived.Test.YtoimgijhekahhaaGreatPx12
namespace Go.Proofs.YtoimgijhekahhaaGreat.P
open Go.RowKit Go.Proofs.YtoimgijhekahhaaGreatOwn Go.Proofs.YtoimgijhekahhaaGreatW.PrintWords Go.Proofs.YtoimgijhekahhaaGreatW.PrintLast Go.Proofs.YtoimgijhekahhaaGreatW.PrintMore
set_option linter.unusedVariables false
set_option linter.unusedSimpArgs false
attribute [local go_sem] max2_int max_two min_two
theorem asked_calls (k : Nat) (hk : 4096 ≤ k) {l : List Row} (g : Good l) (q : Q11) (wq : wfQ q) (hq : checkP q = 0) (A : Option Addr) (c : Nat) (w : World) (hC : Kd.C k37 w A l.length l) (hc : l.length ≤ c) :
  Calls Tryz.prog 19 #[.slice A l.length c, .agg (encQ q)] w fun e w' => ∃ v, e = .returned v ∧ Kd.R k37 37 w' w.heap.size (fun _ => True) v (fullP l q) ∧ Below w.heap.size w w' := by
 obtain ⟨ha, _, _, hb, hxy⟩ := check_iff.1 hq
 have hl := g.len
 have hk4 : q.kind = 1 ∨ q.kind = 2 ∨ q.kind = 3 ∨ q.kind = 4 := by omega
 rcases hk4 with h | h | h | h
 ·have hw : wholeP l q = l.filter (inR q.b0 q.b1 q.b2 q.b3) := by unfold wholeP; rw [if_pos h]
  have hf : fullP l q = (l.filter (inR q.b0 q.b1 q.b2 q.b3)).filter (keepB q) := by rw [keep_left (by omega), ← hw]; rfl
  have hcall : sphragisref09_Window.f k l q.b0 q.b1 q.b2 q.b3 = some (l.filter (inR q.b0 q.b1 q.b2 q.b3), 0) := by
   rw [ref_window_eq (by omega) q.b0 q.b1 q.b2 q.b3 (by omega)]
   unfold windowP
   rw [if_pos (hb h)]
  have hL : (l.filter (inR q.b0 q.b1 q.b2 q.b3)).length ≤ 1000 := Nat.le_trans (List.length_filter_le _ _) (by omega)
  rw [hf]
  cases hfr : q.from_ with
  | true => exact asked_1T k q hfr A c l _ 0 hL w hC hc hcall h
  | false => exact asked_1F k q hfr A c l _ 0 hL w hC hc hcall h
 ·obtain ⟨gx, gy⟩ := hxy (.inl h)
  have hw : wholeP l q = l.filter (nearB q.x q.y q.sq) := by unfold wholeP; rw [if_neg (by omega), if_pos h]
  have hf : fullP l q = (l.filter (nearB q.x q.y q.sq)).filter (keepB q) := by rw [keep_left (by omega), ← hw]; rfl
  have hcall : sphragisref09_Round.f k l q.x q.y q.sq = some (l.filter (nearB q.x q.y q.sq), 0) := by
   rw [ref_round_eq g.pt (by omega) wq.x.1 wq.y.1 wq.x.2 wq.y.2 (by omega)]
   unfold roundP
   rw [if_neg (by omega)]
  have hL : (l.filter (nearB q.x q.y q.sq)).length ≤ 1000 := Nat.le_trans (List.length_filter_le _ _) (by omega)
  rw [hf]
  cases hfr : q.from_ with
  | true => exact asked_2T k q hfr A c l _ 0 hL w hC hc hcall h
  | false => exact asked_2F k q hfr A c l _ 0 hL w hC hc hcall h
 ·obtain ⟨gx, gy⟩ := hxy (.inr h)
  have hw : wholeP l q = sortD q.x q.y l := by unfold wholeP; rw [if_neg (by omega), if_neg (by omega), if_pos h]
  have hf : fullP l q = sortD q.x q.y l := by unfold fullP leftQ; rw [if_neg (fun e => e.2 h), hw]
  have hlen := (sortD_perm q.x q.y l).length_eq
  have hcall : sphragisref09_Near.f k l q.x q.y (l.length : Int) = some (sortD q.x q.y l, 0) := by
   rw [ref_near_eq g.pt g.asc hl wq.x.1 wq.y.1 hk]
   unfold nearP
   rw [if_neg (by omega), Int.toNat_natCast, List.take_of_length_le (by omega)]
  rw [hf]
  cases hfr : q.from_ with
  | true => exact asked_3T k q hfr A c l _ 0 (by omega) w hC hc hcall h
  | false => exact asked_3F k q hfr A c l _ 0 (by omega) w hC hc hcall h
 ·have hw : wholeP l q = l := by unfold wholeP; rw [if_neg (by omega), if_neg (by omega), if_neg (by omega)]
  have hf : fullP l q = l.filter (keepB q) := by rw [keep_left (by omega)]; unfold fullP; rw [hw]
  rw [hf]
  cases hfr : q.from_ with
  | true => exact asked_4T k q hfr A c l (by omega) w hC hc h
  | false => exact asked_4F k q hfr A c l (by omega) w hC hc h
set_option maxRecDepth 100000 in
set_option maxHeartbeats 8000000 in
theorem refAsk_calls (k : Nat) (hk : 4096 ≤ k) (l : List Row) (wl : ∀ s ∈ l, wfRow s) (hl : l.length ≤ 60) (q : Q11) (wq : wfQ q) (A : Option Addr) (c : Nat) (w : World) (hC : Kd.C k37 w A l.length l) (hc : l.length ≤ c) :
  Calls Tryz.prog 12 #[.slice A l.length c, .agg (encQ q)] w fun e w' => ∃ v, e = .returned (.tuple #[v, .bool (askP l q).2.1, .int .i64 (askP l q).2.2]) ∧ Kd.R k37 37 w' w.heap.size (fun _ => True) v (askP l q).1 ∧ Below w.heap.size w w' := by
 obtain ⟨w0, hw0⟩ : ∃ w0, w.alloc (.cells #[.int .i64 q.kind, .int .u32 q.b0, .int .u32 q.b1, .int .u32 q.b2, .int .u32 q.b3, .int .u32 q.x, .int .u32 q.y, .int .u64 q.sq, .int .i64 q.k, .int .u64 q.after, .bool q.from_] 28) = w0 := ⟨_, rfl⟩
 have X0 := Aside0.mk (show w0.heap[w.heap.size]? = some (.cells #[.int .i64 q.kind, .int .u32 q.b0, .int .u32 q.b1, .int .u32 q.b2, .int .u32 q.b3, .int .u32 q.x, .int .u32 q.y, .int .u64 q.sq, .int .i64 q.k, .int .u64 q.after, .bool q.from_] 28 (0, 0)) by rw [← hw0]; exact boxc_new w _ _)
 have B0 := Aside0.mk (show Below w.heap.size w w0 by rw [← hw0]; exact below_alloc' (Below.refl _ w) _)
 have HC := Aside0.mk hC
 clear hC
 obtain ⟨out, more, er, hask⟩ : ∃ out more er, askP l q = (out, more, er) := ⟨_, _, _, rfl⟩
 rw [hask]
 have HASK := Aside0.mk hask
 clear hask
 unfold encQ
 go_enter Tryz.func12, Tryz.ntmps12
 go_wp2_with fail
 refine (sphragisref09_Right.calls k A c l (rightL l) _ (Kd.C_below HC.out B0.out) hc (ref_right l k (by omega) (by omega))).mono ?_
 rintro e w1 ⟨rfl, hb1⟩
 have X1 := Aside0.mk (boxc_below X0.out hb1)
 have B1 := Aside0.mk (below_call B0.out hb1)
 clear X0 B0 hb1
 cases hr : rightL l with
 | false =>
  have hres : askP l q = ([], false, 80) := by unfold askP; rw [if_neg (by rw [hr]; simp)]
  have h1 := HASK.out.symm.trans hres
  simp only [Prod.mk.injEq] at h1
  obtain ⟨rfl, rfl, rfl⟩ := h1
  clear hres hr HASK
  go_wp2
  go_ret3
  exact ⟨_, rfl, Kd.R_nil _ _ _ _ _, B1.out⟩
 | true =>
  have HG := Aside0.mk (good_of wl hl hr)
  have HRI := Aside0.mk hr
  clear hr
  have x0 := boxc_cell X1.out 0
  have x1 := boxc_cell X1.out 1
  have x2 := boxc_cell X1.out 2
  have x3 := boxc_cell X1.out 3
  have x4 := boxc_cell X1.out 4
  have x5 := boxc_cell X1.out 5
  have x6 := boxc_cell X1.out 6
  have x7 := boxc_cell X1.out 7
  have x8 := boxc_cell X1.out 8
  have x9 := boxc_cell X1.out 9
  have x10 := boxc_cell X1.out 10
  go_wp2_with fail
  refine (sphragisref11_Check.calls k q.kind q.b0 q.b1 q.b2 q.b3 q.x q.y q.sq q.k q.after q.from_ (checkP q) _ (by have := ref_check_eq q (k - 3); rwa [show k - 3 + 3 = k by omega] at this)).mono ?_
  rintro e w2 ⟨rfl, hb2⟩
  have X2 := Aside0.mk (boxc_below X1.out hb2)
  have B2 := Aside0.mk (below_call B1.out hb2)
  clear X1 B1 hb2 x0 x1 x2 x3 x4 x5 x6 x7 x8 x9 x10
  obtain ⟨cq, hcq⟩ : ∃ cq, checkP q = cq := ⟨_, rfl⟩
  rw [hcq]
  by_cases hz : cq = 0
  case neg =>
   have hres : askP l q = ([], false, cq) := by unfold askP; rw [if_pos HRI.out, if_neg (by rw [hcq]; exact hz), hcq]
   have he : (cq != 0) = true := bne_iff_ne.2 hz
   have h1 := HASK.out.symm.trans hres
   simp only [Prod.mk.injEq] at h1
   obtain ⟨rfl, rfl, rfl⟩ := h1
   clear hres hz hcq HASK
   go_wp2
   go_ret3
   exact ⟨_, rfl, Kd.R_nil _ _ _ _ _, B2.out⟩
  have he : (cq != 0) = false := bne_eq_false_iff_eq.2 hz
  rw [hz] at hcq
  have HCQ := Aside0.mk hcq
  have hga := HASK.out.symm.trans (ask_good HRI.out wq hcq)
  have h0 := check_k0 hcq
  obtain ⟨F, hF⟩ : ∃ F, fullP l q = F := ⟨_, rfl⟩
  rw [hF] at hga
  have HF := Aside0.mk hF
  have hFl : F.length ≤ 60 := by rw [← hF]; exact Nat.le_trans full_len hl
  simp only [Prod.mk.injEq] at hga
  obtain ⟨hout, hmore, rfl⟩ := hga
  have HOU := Aside0.mk hout
  have HMO := Aside0.mk hmore
  clear hz hcq hF hout hmore HASK
  have x0 := boxc_cell X2.out 0
  have x1 := boxc_cell X2.out 1
  have x2 := boxc_cell X2.out 2
  have x3 := boxc_cell X2.out 3
  have x4 := boxc_cell X2.out 4
  have x5 := boxc_cell X2.out 5
  have x6 := boxc_cell X2.out 6
  have x7 := boxc_cell X2.out 7
  have x8 := boxc_cell X2.out 8
  have x9 := boxc_cell X2.out 9
  have x10 := boxc_cell X2.out 10
  go_wp2_with fail
  refine (asked_calls k hk HG.out q wq HCQ.out A c _ (Kd.C_below HC.out B2.out) hc).mono ?_
  rintro e w3 ⟨v3, rfl, hR3, hb3⟩
  rw [HF.out] at hR3
  obtain ⟨A3, c3, rfl⟩ := Kd.R_slice hR3
  have X3 := Aside0.mk (boxc_below X2.out hb3)
  have B3 := Aside0.mk (below_call B2.out hb3)
  have hn3 := (Kd.R_reads' hR3).2.1
  clear X2 hb3 x0 x1 x2 x3 x4 x5 x6 x7 x8 x9 x10
  have x8 := boxc_cell X3.out 8
  obtain ⟨i0_, hi_, hi0_, hi1_, hi2_⟩ := info_parts info37
  obtain ⟨m, hm⟩ : ∃ m : Nat, m = min q.k.toNat F.length := ⟨_, rfl⟩
  have hmle : m ≤ F.length := by rw [hm]; exact Nat.min_le_right _ _
  have hmin : Builtin.min2 (.int .i64 q.k) (.int .i64 (F.length : Int)) = pure (.int .i64 (m : Int)) := by
   rw [min2_int]
   refine congrArg (fun x => (pure (Value.int .i64 x) : Sem Value)) ?_
   rw [hm]
   split <;> omega
  have hcut := cut_to (P := Tryz.prog) 22 37 .i64 Tryz.underlying22 hi_ A3 F.length c3 (m : Int) (by omega) (by omega) hn3
  rw [Int.toNat_natCast] at hcut
  have HRES := Aside0.mk (Kd.R_lower (Kd.R_take hR3 hmle) B2.out.size)
  have hmk : F.take m = F.take q.k.toNat := by
   rw [hm]
   rcases Nat.le_total q.k.toNat F.length with h | h
   ·rw [Nat.min_eq_left h]
   ·rw [Nat.min_eq_right h, List.take_length, List.take_of_length_le h]
  have hdk : decide (m < F.length) = more := by rw [HMO.out]; exact decide_eq_decide.2 (by omega)
  have hdk2 : decide ((m : Int) < (F.length : Int)) = more := by rw [HMO.out]; exact decide_eq_decide.2 (by omega)
  obtain rfl : out = F.take m := by rw [HOU.out, hmk]
  have hlm : (F.take m).length = m := by rw [List.length_take]; omega
  clear hi_ hi0_ hi1_ hi2_ hm hmk hR3 HMO HOU
  go_wp2_with fail
  go_ret3
  exact ⟨_, rfl, HRES.out, B3.out⟩
end Go.Proofs.YtoimgijhekahhaaGreat.P

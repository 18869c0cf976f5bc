/- Layer 11: all pieces, by the reference (sphragisref11.All). -/
import Derived.Test.YtoimgijhekahhaaGreatFindX
import Derived.Test.YtoimgijhekahhaaGreatFindV
namespace Go.Proofs.YtoimgijhekahhaaGreat.P
open Go.RowKit Go.Proofs.YtoimgijhekahhaaGreatOwn Go.Proofs.YtoimgijhekahhaaGreatW.PrintWords Go.Proofs.YtoimgijhekahhaaGreatW.PrintLast Go.Proofs.YtoimgijhekahhaaGreatW.PrintMore
set_option linter.unusedVariables false
set_option linter.unusedSimpArgs false
attribute [local go_sem] max2_int max_two min_two
structure YSt (l : List Row) (q0 : Q11) (F : List Row) (K : Nat) (j : Nat) (q : Q11) : Prop where
 ok : checkP q = 0
 k3 : q.kind ≠ 3
 wq : wfQ q
 kk : q.k.toNat = K
 fp : fullP l q = F.drop (K * j)
theorem YSt.next {l : List Row} {q0 q : Q11} {F : List Row} {K j : Nat} (g : Good l) (wl : ∀ s ∈ l, wfRow s) (hK : 1 ≤ K) (h : YSt l q0 F K j q) (hm : K < (F.drop (K * j)).length) {r : Row} (hr : (F.drop (K * j))[K - 1]? = some r) :
  YSt l q0 F K (j + 1) { q with from_ := true, after := r.f0 } := by
 have hrl : r ∈ l := mem_full h.k3 (by rw [h.fp]; exact List.mem_of_getElem? hr)
 have hwf := bounds_u64 (wl r hrl).w0
 refine ⟨h.ok, h.k3, ⟨h.wq.kind, h.wq.b0, h.wq.b1, h.wq.b2, h.wq.b3, h.wq.x, h.wq.y, h.wq.sq, h.wq.k, hwf⟩, h.kk, ?_⟩
 rw [full_next g h.k3 h.fp (n := K) (by omega) (by omega) (r := r) hr, List.drop_drop, Nat.mul_add, Nat.mul_one]
theorem meas11 {m : Int} {j : Nat} (h : (j : Int) < m) : m.toNat - ((j : Int) + 1).toNat < m.toNat - ((j : Int)).toNat := by omega
set_option maxRecDepth 100000 in
set_option maxHeartbeats 8000000 in
theorem refAll_calls (k : Nat) (hk : 4096 ≤ k) (A : Option Addr) (c : Nat) (l : List Row) (wl : ∀ s ∈ l, wfRow s) (hl : l.length ≤ 60) (q : Q11) (wq : wfQ q) (most : Int) (hmost : most ≤ 100) (w : World) (hC : Kd.C k37 w A l.length l) (hc : l.length ≤ c) :
  Calls Tryz.prog 7 #[.slice A l.length c, .agg (encQ q), .int .i64 most] w fun e w' => ∃ v, e = .returned (.tuple #[v, .int .i64 (allQ l q most).2]) ∧ Kd.R k37 37 w' w.heap.size (fun _ => True) v (allQ l q most).1 ∧ Below w.heap.size w w' := by
 obtain ⟨w0, hw0⟩ : ∃ w0, w.alloc (.cells #[.int .i64 q.kind, .int .u32 q.b0, .int .u32 q.b1, .int .u32 q.b2, .int .u32 q.b3, .int .u32 q.x, .int .u32 q.y, .int .u64 q.sq, .int .i64 q.k, .int .u64 q.after, .bool q.from_] 28) = w0 := ⟨_, rfl⟩
 have X0 := Aside0.mk (show w0.heap[w.heap.size]? = some (.cells #[.int .i64 q.kind, .int .u32 q.b0, .int .u32 q.b1, .int .u32 q.b2, .int .u32 q.b3, .int .u32 q.x, .int .u32 q.y, .int .u64 q.sq, .int .i64 q.k, .int .u64 q.after, .bool q.from_] 28 (0, 0)) by rw [← hw0]; exact boxc_new w _ _)
 have B0 := Aside0.mk (show Below w.heap.size w w0 by rw [← hw0]; exact below_alloc' (Below.refl _ w) _)
 have HC := Aside0.mk hC
 clear hC
 obtain ⟨out, ec, hall⟩ : ∃ out ec, allQ l q most = (out, ec) := ⟨_, _, rfl⟩
 rw [hall]
 have HALL := Aside0.mk hall
 clear hall
 unfold encQ
 have x0 := boxc_cell X0.out 0
 have x1 := boxc_cell X0.out 1
 have x2 := boxc_cell X0.out 2
 have x3 := boxc_cell X0.out 3
 have x4 := boxc_cell X0.out 4
 have x5 := boxc_cell X0.out 5
 have x6 := boxc_cell X0.out 6
 have x7 := boxc_cell X0.out 7
 have x8 := boxc_cell X0.out 8
 have x9 := boxc_cell X0.out 9
 have x10 := boxc_cell X0.out 10
 go_enter Tryz.func7, Tryz.ntmps7
 by_cases h3 : q.kind = 3
 ·have hres : allQ l q most = ([], 2) := by unfold allQ; rw [if_pos (.inl h3)]
  have h1 := HALL.out.symm.trans hres
  simp only [Prod.mk.injEq] at h1
  obtain ⟨rfl, rfl⟩ := h1
  have e3 : (q.kind == 3) = true := beq_iff_eq.2 h3
  clear h3 hres HALL
  go_wp2
  go_ret2
  exact ⟨_, rfl, Kd.R_nil _ _ _ _ _, B0.out⟩
 have e3 : (q.kind == 3) = false := beq_eq_false_iff_ne.2 h3
 by_cases hm0 : most < 0
 ·have hres : allQ l q most = ([], 2) := by unfold allQ; rw [if_pos (.inr hm0)]
  have h1 := HALL.out.symm.trans hres
  simp only [Prod.mk.injEq] at h1
  obtain ⟨rfl, rfl⟩ := h1
  have em : decide (most < 0) = true := decide_eq_true hm0
  clear h3 hres hm0 HALL
  go_wp2
  go_ret2
  exact ⟨_, rfl, Kd.R_nil _ _ _ _ _, B0.out⟩
 have em : decide (most < 0) = false := decide_eq_false hm0
 have HBAD := Aside0.mk (show ¬ (q.kind = 3 ∨ most < 0) by omega)
 have H3 := Aside0.mk h3
 have HMO := Aside0.mk (show 0 ≤ most ∧ most ≤ 100 by omega)
 clear h3 hm0 hmost
 go_wp2_with fail
 refine (refAsk_calls k hk l wl hl q wq A c _ (Kd.C_below HC.out B0.out) hc).mono ?_
 rintro e w1 ⟨v1, rfl, hR1, hb1⟩
 obtain ⟨A1, c1, rfl⟩ := Kd.R_slice hR1
 have X1 := Aside0.mk (boxc_below X0.out hb1)
 have B1 := Aside0.mk (below_call B0.out hb1)
 clear hR1 hb1 X0 B0 x0 x1 x2 x3 x4 x5 x6 x7 x8 x9 x10
 obtain ⟨er, her⟩ : ∃ er, (askP l q).2.2 = er := ⟨_, rfl⟩
 obtain ⟨mo, hmo⟩ : ∃ mo, (askP l q).2.1 = mo := ⟨_, rfl⟩
 rw [her, hmo]
 clear hmo
 by_cases hz : er = 0
 case neg =>
  have he1 : (er != 0) = true := bne_iff_ne.2 hz
  have hres : allQ l q most = ([], er) := by
   unfold allQ
   rw [if_neg HBAD.out]
   rw [ask_err] at her
   cases hr : rightL l with
   | false => rw [hr, if_neg (by simp)] at her; rw [if_neg (by simp), her]
   | true =>
    rw [hr, if_pos rfl] at her
    rw [if_pos rfl, if_neg (by rw [her]; exact hz), her]
  have h1 := HALL.out.symm.trans hres
  simp only [Prod.mk.injEq] at h1
  obtain ⟨rfl, rfl⟩ := h1
  clear hz hres her HALL
  go_wp2
  go_ret2
  exact ⟨_, rfl, Kd.R_nil _ _ _ _ _, B1.out⟩
 have he1 : (er != 0) = false := bne_eq_false_iff_eq.2 hz
 rw [hz] at her
 obtain ⟨hri, hcq⟩ := ask_ok her
 obtain ⟨F, hF⟩ : ∃ F, fullP l q = F := ⟨_, rfl⟩
 obtain ⟨K, hK⟩ : ∃ K, q.k.toNat = K := ⟨_, rfl⟩
 have hres : allQ l q most = (F.take (K * most.toNat), 0) := by
  unfold allQ
  rw [if_neg HBAD.out, if_pos hri, if_pos hcq, hF, hK]
 have h1 := HALL.out.symm.trans hres
 simp only [Prod.mk.injEq] at h1
 obtain ⟨hout, rfl⟩ := h1
 have HOUT := Aside0.mk hout
 clear hout HALL
 have HRI := Aside0.mk hri
 have HG := Aside0.mk (good_of wl hl hri)
 have HWL := Aside0.mk wl
 have HFL := Aside0.mk (show F.length ≤ 60 by rw [← hF]; exact Nat.le_trans full_len hl)
 have HK := Aside0.mk (show 1 ≤ K ∧ K ≤ 64 by
  have h2 := (check_iff.1 hcq).2
  rw [if_neg H3.out] at h2
  omega)
 have HST := Aside0.mk (show YSt l q F K 0 q from ⟨hcq, H3.out, wq, hK, by rw [Nat.mul_zero, List.drop_zero]; exact hF⟩)
 clear hz hres her hri hcq hF hK wl
 go_wp2_with fail
 go_loopw [11, 12] (fun ov jv V => ∃ (j : Nat) (q' : Q11), jv = .int .i64 (j : Int) ∧ (j : Int) ≤ most ∧ Aside0 (Kd.R k37 37 V w.heap.size (fun _ => True) ov (F.take (K * j))) ∧ Aside0 (Below w.heap.size w V) ∧ Aside0 (V.heap[w.heap.size]? = some (.cells (encQ q') 28 (0, 0))) ∧ Aside0 (YSt l q F K j q')) (fun _ jv _ => most.toNat - (intOf jv).toNat)
 case atStart => exact ⟨0, q, rfl, HMO.out.1, ⟨by rw [Nat.mul_zero, List.take_zero]; exact Kd.R_nil _ _ _ _ _⟩, B1, X1, HST⟩
 case round =>
  obtain ⟨j, q', rfl, hj, hO, hB, hX, hS⟩ := hrel
  unfold encQ at hX
  by_cases hj2 : (j : Int) < most
  ·have x0 := boxc_cell hX.out 0
   have x1 := boxc_cell hX.out 1
   have x2 := boxc_cell hX.out 2
   have x3 := boxc_cell hX.out 3
   have x4 := boxc_cell hX.out 4
   have x5 := boxc_cell hX.out 5
   have x6 := boxc_cell hX.out 6
   have x7 := boxc_cell hX.out 7
   have x8 := boxc_cell hX.out 8
   have x9 := boxc_cell hX.out 9
   have x10 := boxc_cell hX.out 10
   obtain ⟨M, hM⟩ : ∃ M, F.drop (K * j) = M := ⟨_, rfl⟩
   obtain ⟨pa, hpa⟩ : ∃ pa, M.take K = pa := ⟨_, rfl⟩
   obtain ⟨m2, hm2⟩ : ∃ m2, decide (K < M.length) = m2 := ⟨_, rfl⟩
   have hask : askP l q' = (pa, m2, 0) := by
    have h0 := check_k0 hS.out.ok
    have h1 := hS.out.kk
    rw [ask_good HRI.out hS.out.wq hS.out.ok, hS.out.fp, h1, hM, hpa, ← hm2]
    exact congrArg (fun x => (pa, x, (0 : Int))) (decide_eq_decide.2 (by omega))
   have HT9 := Aside0.mk (show F.take (K * (j + 1)) = F.take (K * j) ++ pa by rw [← hpa, ← hM, Nat.mul_add, Nat.mul_one, List.take_add])
   have hpl : pa.length ≤ 64 := by rw [← hpa, List.length_take]; have := HK.out; omega
   have hFt : (F.take (K * j)).length ≤ 60 := by rw [List.length_take]; have := HFL.out; omega
   have HM := Aside0.mk hM
   have HPA := Aside0.mk hpa
   have HM2 := Aside0.mk hm2
   have HJ2 := Aside0.mk hj2
   have HASK := Aside0.mk hask
   clear hM hpa hm2 hask
   go_wp2_with fail
   refine (refAsk_calls k hk l HWL.out hl q' hS.out.wq A c _ (Kd.C_below HC.out hB.out) hc).mono ?_
   rw [HASK.out]
   rintro e w2 ⟨v2, rfl, hR2, hb2⟩
   obtain ⟨A2, c2, rfl⟩ := Kd.R_slice hR2
   have HR2 := Aside0.mk hR2
   have HX2 := Aside0.mk (boxc_below hX.out hb2)
   have HB2 := Aside0.mk (below_call hB.out hb2)
   have HO2 := Aside0.mk (Kd.R_below hO.out hb2)
   have HZ := Aside0.mk (boxc_lt hX.out)
   have HOL := Aside0.mk (show ∀ b, u11.ownBlock = some b → b < wr.heap.size from fun b hb => by obtain ⟨_, ho⟩ := Kd.R_own hO.out; exact own_lt ho b hb)
   have hPL := Aside0.mk hpl
   have hFT := Aside0.mk hFt
   clear hR2 hb2 hX hB hO x0 x1 x2 x3 x4 x5 x6 x7 x8 x9 x10 hpl hFt
   go_upto_region 12 with ((with_reducible refine gate_builtin (b := .append) (xs := #[.tmp 45, .tmp 46]) rfl ?_); at_builtin; refine Kd.R_append_rows k37 (Rr := k37.K w2) (w0 := w) w.heap.size rfl (.tmp 45) (.tmp 46) 22 37 (.agg #[(.int .u64 0), (.int .u32 0), (.int .u32 0), (.string ⟨#[]⟩)]) 32 rfl Tryz.underlying22 info37 rfl (by decide) (by omega) u11 (F.take (K * j)) pa A2 pa.length c2 (fun _ => True) (fun _ => False) rfl rfl ?aO ?aR ?aM (fun _ hk => hk.elim) ?aF ?aB ?aS ?aL ?_; (case aO => exact HO2.out); (case aR => exact (Kd.R_reads' HR2.out).2.2); (case aM => exact fun x cs h => by obtain rfl := k37_open h; exact k37_mkM _ _ _ _); (case aF => exact (fun _ _ => trivial)); (case aB => exact HB2.out); (case aS => exact HB2.out.size); (case aL => have := hPL.out; have := hFT.out; omega); intro v3 w3 ho hb hg hat; have HO3 := Aside0.mk ho; have HB3 := Aside0.mk hb; have HG3 := Aside0.mk hg; clear ho hb hg hat)
   have HX3 := Aside0.mk (blk_grown HX2.out HG3.out (Kd.R_ne HO2.out HX2.out (by decide)))
   by_cases hmr : K < M.length
   ·obtain rfl : m2 = true := by rw [← HM2.out]; exact decide_eq_true hmr
    have hK := HK.out
    have hlp : pa.length = K := by rw [← HPA.out, List.length_take]; omega
    have hC2 := (Kd.R_reads' HR2.out).2.2
    obtain ⟨ad, e, r0, r1, r2, r3⟩ := at_T37 hC2 ((K - 1 : Nat) : Int) (by omega) (by omega)
    subst e
    simp only [Int.toNat_natCast] at r0
    have hrn : rd_T37 pa ((K - 1 : Nat) : Int) = pa[K - 1] := by unfold rd_T37; simp [List.getD, show K - 1 < pa.length by omega]
    have hget : M[K - 1]? = some (rd_T37 pa ((K - 1 : Nat) : Int)) := by
     rw [hrn, ← List.getElem?_eq_getElem, ← HPA.out, List.getElem?_take, if_pos (by omega)]
    generalize rd_T37 pa ((K - 1 : Nat) : Int) = r at hget r0 r1 r2 r3
    have hbk : (ad.add ((K - 1) * 4)).block = ad.block := by unfold Addr.add; split <;> rfl
    have hge : wr.heap.size ≤ ad.block := Kd.R_base HR2.out ad.block (by simp [Value.ownBlock])
    have r0 := Go.Proofs.YtoimgijhekahhaaGreatW.PrintWords.cell_grown HG3.out r0 (by rw [hbk]; intro h; have := HOL.out _ h.symm; omega)
    have hne : w.heap.size ≠ (ad.add ((K - 1) * 4)).block := by rw [hbk]; have := HZ.out; intro h; omega
    have HNX := Aside0.mk (YSt.next HG.out HWL.out hK.1 hS.out (by rw [HM.out]; exact hmr) (r := r) (by rw [HM.out]; exact hget))
    obtain ⟨w4, hw4⟩ : ∃ w4, w3.setCell ⟨w.heap.size, 10, none⟩ (.bool true) = w4 := ⟨_, rfl⟩
    obtain ⟨w5, hw5⟩ : ∃ w5, w4.setCell ⟨w.heap.size, 9, none⟩ (.int .u64 r.f0) = w5 := ⟨_, rfl⟩
    have y10 := boxc_cell HX3.out 10
    have z10 := boxc_frozen HX3.out 10
    have X4 := Aside0.mk (show w4.heap[w.heap.size]? = some (.cells (encQ { q' with from_ := true }) 28 (0, 0)) by rw [← hw4]; exact boxc_set HX3.out 10 (.bool true))
    have y9 := boxc_cell X4.out 9
    have z9 := boxc_frozen X4.out 9
    have r4 : w4.cell? (ad.add ((K - 1) * 4)) = some (.int .u64 r.f0) := by rw [← hw4]; exact (World.cell?_of_block (Below.heap_setCell w3 ⟨w.heap.size, 10, none⟩ _ _ (Ne.symm hne))).trans r0
    have X5 := Aside0.mk (show w5.heap[w.heap.size]? = some (.cells (encQ { q' with from_ := true, after := r.f0 }) 28 (0, 0)) by rw [← hw5]; exact boxc_set X4.out 9 (.int .u64 r.f0))
    have O5 := Aside0.mk (show Kd.R k37 37 w5 w.heap.size (fun _ => True) v3 (F.take (K * (j + 1))) by rw [HT9.out, ← hw5, ← hw4]; exact Kd.R_set (Kd.R_set HO3.out HX3.out (by decide) 10 _) (boxc_set HX3.out 10 (.bool true)) (by decide) 9 _)
    have B5 := Aside0.mk (show Below w.heap.size w w5 by rw [← hw5, ← hw4]; exact (HB3.out.setCell (Nat.le_refl _) _).setCell (Nat.le_refl _) _)
    have hw1 : wrap64 ((K : Int) - 1) = ((K - 1 : Nat) : Int) := by rw [wrap64_id (by omega) (by omega)]; omega
    have hi0 : (0 : Int) ≤ ((K - 1 : Nat) : Int) := Int.natCast_nonneg _
    have hi1 : ((K - 1 : Nat) : Int) < (K : Int) := by omega
    rw [hlp]
    have hw2 : wrap64 ((j : Int) + 1) = (j : Int) + 1 := by have := HMO.out; have := HJ2.out; exact wrap64_id (by omega) (by omega)
    clear hK hlp hC2 r1 r2 r3 hrn hget hbk hge hne r0 hmr
    go_wp2
    go_roundw
    case rel => rw [hw2]; exact ⟨j + 1, _, congrArg (Value.int .i64) (Int.natCast_succ j).symm, by have := HJ2.out; omega, O5, B5, X5, HNX⟩
    case measure =>
     rw [hw2]
     simp only [intOf]
     exact meas11 HJ2.out
   ·obtain rfl : m2 = false := by rw [← HM2.out]; exact decide_eq_false hmr
    have HRES := Aside0.mk (show F.take (K * j) ++ pa = out by
     rw [HOUT.out, ← HT9.out]
     have h1 := HJ2.out
     have h2 : M.length = F.length - K * j := by rw [← HM.out, List.length_drop]
     have h3 : j + 1 ≤ most.toNat := by omega
     have h4 := Nat.mul_le_mul_left K h3
     rw [Nat.mul_add, Nat.mul_one] at h4 ⊢
     rw [List.take_of_length_le (by omega), List.take_of_length_le (by omega)])
    clear hmr
    go_wp2
    go_ret2
    exact ⟨_, rfl, by rw [← HRES.out]; exact HO3.out, HB3.out⟩
  ·obtain rfl : most = (j : Int) := by omega
   have HO2 := Aside0.mk (show Kd.R k37 37 wr w.heap.size (fun _ => True) u11 out by rw [HOUT.out, Int.toNat_natCast]; exact hO.out)
   have HB2 := hB
   clear hO hB hX hS
   go_wp2
   go_ret2
   exact ⟨_, rfl, HO2.out, HB2.out⟩
end Go.Proofs.YtoimgijhekahhaaGreat.P

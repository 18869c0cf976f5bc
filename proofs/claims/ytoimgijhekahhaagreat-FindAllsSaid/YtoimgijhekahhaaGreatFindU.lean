/- Layer 11, find: the iterator of pieces (find.pieces$1): walked. -/
import Derived.Test.YtoimgijhekahhaaGreatStep
import Derived.Test.YtoimgijhekahhaaGreatFindT
namespace Go.Proofs.YtoimgijhekahhaaGreat.P
open Go.RowKit Go.Proofs.YtoimgijhekahhaaGreatOwn Go.Proofs.YtoimgijhekahhaaGreatW.PrintWords Go.Proofs.YtoimgijhekahhaaGreatW.PrintLast Go.Proofs.YtoimgijhekahhaaGreatW.PrintMore
set_option linter.unusedVariables false
set_option linter.unusedSimpArgs false
attribute [local go_sem] Oper.semAt_some
def pieces_T5 : Bool × List (List Nat × List Nat) := (true, [([], []), ([], []), ([1], [1]), ([2], [2]), ([0, 3], [0, 3]), ([4], [4]), ([5], [5]), ([], []), ([7], [7]), ([0, 1, 2, 3, 4, 5, 6, 7, 8], []), ([9, 6, 8, 0, 1, 2, 3, 4, 5, 6, 7, 8], [6, 9])])
def pieces_B5 : List Nat := [0, 0, 2, 6, 15, 31, 63, 0, 128, 511, 1023]
theorem pieces_tab5 : rtab .any (opsOf Tryz.f16 5) = pieces_T5 := by kernel_rfl
theorem pieces_bits5 : waitsOk pieces_T5.2 pieces_B5 = true := by kernel_rfl
theorem mem_full {l : List Row} {q : Q11} (h3 : q.kind ≠ 3) {x : Row} (hx : x ∈ fullP l q) : x ∈ l := by
 have hw : ∀ y ∈ wholeP l q, y ∈ l := fun y hy => by
  unfold wholeP at hy
  by_cases k1 : q.kind = 1
  ·rw [if_pos k1] at hy; exact (List.mem_filter.1 hy).1
  rw [if_neg k1] at hy
  by_cases k2 : q.kind = 2
  ·rw [if_pos k2] at hy; exact (List.mem_filter.1 hy).1
  rw [if_neg k2, if_neg h3] at hy
  exact hy
 unfold fullP leftQ at hx
 by_cases hf : q.from_ = true ∧ q.kind ≠ 3
 ·rw [if_pos hf] at hx; exact hw x (List.mem_filter.1 hx).1
 ·rw [if_neg hf] at hx; exact hw x hx
structure PSt (l : List Row) (q0 : Q11) (F : List Row) (K : Nat) (m : Nat) (pre : List Pc) (q : Q11) (more : Bool) : Prop where
 ok : checkP q = 0
 k3 : q.kind ≠ 3
 wq : wfQ q
 kk : q.k.toNat = K
 pc : PcOk F K (pre.map (·.rows))
 on : more = true → fullP l q = F.drop (K * pre.length) ∧ K * pre.length ≤ F.length ∧ F.length + 2 ≤ m + K * pre.length
 off : more = false → F.length ≤ K * pre.length ∧ 1 ≤ m
theorem region_normal {F : Fence} {n : Nat} {P : Program} {c : Code} {Q : Exit → Act → World → Prop} {a : Act} {w : World} (h : c.wpIn F n P (fun e a w => e = .normal ∧ Q .normal a w) a w) : c.wpIn F n P Q a w := Code.wpIn_mono (fun e a w ⟨h1, h2⟩ => by subst h1; exact h2) h
theorem ask_piece (k : Nat) {l : List Row} (g : Good l) {q : Q11} (wq : wfQ q) (hc : checkP q = 0) (A3 : Option Addr) (c3 : Nat) (A4 : Option Addr) (c4 : Nat) (M : List Row) (hM : fullP l q = M) (w : World) (hT : TreeAt w (T9 l) A3 c3 A4 c4) :
  Calls Tryz.prog 13 #[.agg (nodeV (T9 l) A3 c3 A4 c4), .agg (encQ q)] w fun e w' => ∃ A c, e = .returned (.tuple #[.slice A (M.take q.k.toNat).length c, .bool (decide (q.k < (M.length : Int)))]) ∧ Kd.R k37 37 w' w.heap.size (fun _ => True) (.slice A (M.take q.k.toNat).length c) (M.take q.k.toNat) ∧ Below w.heap.size w w' := by
 have h := ask_calls k q (T9 l) A3 c3 A4 c4 (allP l q) w hT (check_iff.1 hc).1 (check_k0 hc) (kindR_eq g k wq)
 rw [cut_full wq hc, hM] at h
 refine h.mono ?_
 rintro e w' ⟨v, rfl, hR, hb⟩
 obtain ⟨A, c, rfl⟩ := Kd.R_slice hR
 exact ⟨A, c, rfl, hR, hb⟩
set_option maxRecDepth 100000 in
set_option maxHeartbeats 8000000 in
theorem pieces_stops (k : Nat) (l : List Row) (g : Good l) (wl : ∀ s ∈ l, wfRow s) (q0 : Q11) (wq0 : wfQ q0) (hc0 : checkP q0 = 0) (h30 : q0.kind ≠ 3) (F : List Row) (hF : fullP l q0 = F) (K : Nat) (hK : q0.k.toNat = K) (A3 : Option Addr) (c3 : Nat) (A4 : Option Addr) (c4 : Nat) (wt : World) (HT : TreeAt wt (T9 l) A3 c3 A4 c4) (Bo Bc Bn Bq : Nat)
  (w : World) (hbt : Below wt.heap.size wt w) (hq : w.heap[Bq]? = some (.cells (encQ q0) 28 (0, 0))) (hn : w.heap[Bn]? = some (.cells #[.int .u32 (T9 l).1, .int .u32 (T9 l).2.1, .int .i64 (T9 l).2.2.1, .slice A3 (T9 l).2.2.2.1.length c3, .slice A4 (T9 l).2.2.2.2.length c4] 44 (0, 0))) (ho : w.heap[Bo]? = some (.cells #[.slice none 0 0] 22 (0, 0))) (hne : wt.heap.size ≤ Bq ∧ Bq ≠ Bo ∧ Bq ≠ Bc ∧ Bq ≠ Bn ∧ Bn ≠ Bo ∧ Bn ≠ Bc ∧ Bc < w.heap.size) :
  SeqStopsN Fence.wide 8 Tryz.prog 16 #[.pointer (some ⟨Bn, 0, none⟩), .pointer (some ⟨Bq, 0, none⟩)] pEncs (fun r => r = Bq) (PcAt w.heap.size) (fun _ => True) (KeepO wt.heap.size Bo Bc) (fun xs => PcOk F K (xs.map (·.rows)) ∧ F.length ≤ K * xs.length) (fun xs => PcOk F K (xs.map (·.rows))) 61 w := fun l' J Jx W hW hJ hJx hY h0 => by
 refine callsIn_of_wp_marks Tryz.func16 rfl trivial ?_ rfl
 simp only [Tryz.ntmps16, List.size_toArray, List.length_cons, List.length_nil, Nat.reduceAdd, Nat.reduceSub, Array.replicate_succ, Array.replicate_zero, List.push_toArray, List.append_toArray, List.nil_append, List.cons_append]
 have hlo := boxc_lt ho
 have hlq := boxc_lt hq
 have hln := boxc_lt hn
 have hWz := hW.size
 have hBo : Bo < W.heap.size := by omega
 have I0 := Aside0.mk (show PInv J [] wt W Bo Bc Bn Bq #[.int .u32 (T9 l).1, .int .u32 (T9 l).2.1, .int .i64 (T9 l).2.2.1, .slice A3 (T9 l).2.2.2.1.length c3, .slice A4 (T9 l).2.2.2.2.length c4] q0 W from ⟨h0, boxc_below hq hW, boxc_below hn hW, below_call hbt hW, Nat.le_refl _, fun q hq' => by
  obtain ⟨v, t, fr, h1, h2⟩ := hq'
  rw [boxc_below ho hW] at h1
  cases h1
  simp [Value.ownBlock] at h2⟩)
 have HNE := Aside0.mk (show (Bq < W.heap.size ∧ Bq ≠ Bo ∧ Bq ≠ Bc) ∧ (Bn < W.heap.size ∧ Bn ≠ Bo ∧ Bn ≠ Bc) ∧ Bc < W.heap.size from ⟨⟨by omega, hne.2.1, hne.2.2.1⟩, ⟨by omega, hne.2.2.2.2.1, hne.2.2.2.2.2.1⟩, by omega⟩)
 have HNQ := Aside0.mk (show (Bq ≠ Bo ∧ Bq ≠ Bn) ∧ wt.heap.size ≤ Bq from ⟨⟨hne.2.1, hne.2.2.2.1⟩, hne.1⟩)
 have HBO := Aside0.mk hBo
 have HWZ := Aside0.mk hWz
 have HJ := Aside0.mk hJ
 have HJX := Aside0.mk hJx
 have HY := Aside0.mk hY
 have HTR := Aside0.mk HT
 have HG := Aside0.mk g
 have HWL := Aside0.mk wl
 have hK1 : 1 ≤ K := by
  have := (check_iff.1 hc0).2.1
  rw [if_neg h30] at this
  omega
 have hK64 : K ≤ 64 := by have := (check_iff.1 hc0).2.2.1; omega
 have HK := Aside0.mk (And.intro hK1 hK64)
 have hFl : F.length ≤ 60 := by rw [← hF]; exact Nat.le_trans full_len g.len
 have HFL := Aside0.mk hFl
 have ST0 := Aside0.mk (show PSt l q0 F K (F.length + 3) [] q0 true from ⟨hc0, h30, wq0, hK, PcOk.nil F K, fun _ => ⟨by simpa using hF, by simp, by simp⟩, fun h => by cases h⟩)
 have hu := Tryz.underlying44
 clear hJ hJx hY h0 HT g wl hc0 h30 wq0 hK1 hK64 hFl hW hbt hq hn ho hne hlo hlq hln hWz hBo hF hK
 gi_wp2_with fail
 refine wpIn_loop_rounds (F.length + 3) (roundsIn_of (fun m a wr => ∃ (pre : List Pc) (q : Q11) (more : Bool) (u5 u6 u7 u8 u9 u10 u11 u12 u13 u14 u15 u16 u17 u18 u19 u20 u21 u22 u23 u24 u25 u26 u27 u28 u29 u30 : Value), a = { tmps := #[.func (.yield l') #[] #[], .pointer (some ⟨Bn, 0, none⟩), .pointer (some ⟨Bq, 0, none⟩), undef, .bool more, u5, u6, u7, u8, u9, u10, u11, u12, u13, u14, u15, u16, u17, u18, u19, u20, u21, u22, u23, u24, u25, u26, u27, u28, u29, u30], defers := [] } ∧ Aside0 (PSt l q0 F K m pre q more) ∧ Aside0 (PInv J pre wt W Bo Bc Bn Bq #[.int .u32 (T9 l).1, .int .u32 (T9 l).2.1, .int .i64 (T9 l).2.2.1, .slice A3 (T9 l).2.2.2.1.length c3, .slice A4 (T9 l).2.2.2.2.length c4] q wr)) ?z ?step _ _ _ ?start)
 case z =>
  rintro a wr ⟨pre, q, more, u5, u6, u7, u8, u9, u10, u11, u12, u13, u14, u15, u16, u17, u18, u19, u20, u21, u22, u23, u24, u25, u26, u27, u28, u29, u30, rfl, hs, hI⟩
  cases more with
  | true => have h1 := hs.out.on rfl; omega
  | false => have h1 := hs.out.off rfl; omega
 case start => exact ⟨[], q0, true, undef, undef, undef, undef, undef, undef, undef, undef, undef, undef, undef, undef, undef, undef, undef, undef, undef, undef, undef, undef, undef, undef, undef, undef, undef, undef, rfl, ST0, I0⟩
 case step =>
  rintro m a wo ⟨pre, q, more, u5, u6, u7, u8, u9, u10, u11, u12, u13, u14, u15, u16, u17, u18, u19, u20, u21, u22, u23, u24, u25, u26, u27, u28, u29, u30, rfl, hs, hI⟩
  clear ST0 I0
  cases more with
  | false =>
   gi_wp2_with fail
   exact leaves_marks W.heap.size (fun V => J pre V) (fun X Y q h hg hq ho => HJ.out _ X Y (some q) h hg (fun r e => by cases e; exact .inr ⟨hq, ho⟩))
    (fun V hV => ⟨_, results_none rfl _ _ _, ⟨_, rfl⟩, .inl ⟨pre, ⟨hs.out.pc, (hs.out.off rfl).1⟩, hV⟩⟩) [] _ ⟨List.nodup_nil, by simp⟩ hI.out.j
  | true =>
   obtain ⟨M, hMd⟩ : ∃ M, F.drop (K * pre.length) = M := ⟨_, rfl⟩
   have hon := hs.out.on rfl
   rw [hMd] at hon
   have HON := Aside0.mk hon
   have HMD := Aside0.mk hMd
   clear hon hMd
   have hq' := hI.out.q
   have hn' := hI.out.n
   unfold encQ at hq'
   have x0 := boxc_cell hq' 0
   have x1 := boxc_cell hq' 1
   have x2 := boxc_cell hq' 2
   have x3 := boxc_cell hq' 3
   have x4 := boxc_cell hq' 4
   have x5 := boxc_cell hq' 5
   have x6 := boxc_cell hq' 6
   have x7 := boxc_cell hq' 7
   have x8 := boxc_cell hq' 8
   have x9 := boxc_cell hq' 9
   have x10 := boxc_cell hq' 10
   have m0 := boxc_cell hn' 0
   have m1 := boxc_cell hn' 1
   have m2 := boxc_cell hn' 2
   have m3 := boxc_cell hn' 3
   have m4 := boxc_cell hn' 4
   clear hq' hn'
   have f26 : Fence.wide.fn 13 := trivial
   have hkk := hs.out.kk
   gi_wp2_with (gi_at_call 13; refine (callsIn_wide.2 (ask_piece k HG.out hs.out.wq hs.out.ok A3 c3 A4 c4 M HON.out.1 wo (HTR.out.below hI.out.b))).mono ?_; rintro e w1 ⟨A5, c5, rfl, hR5, hb1⟩; obtain ⟨rows, hrows⟩ : ∃ rows, M.take q.k.toNat = rows := ⟨_, rfl⟩; obtain ⟨more, hmore⟩ : ∃ more, decide (q.k < (M.length : Int)) = more := ⟨_, rfl⟩; rw [hrows] at hR5 ⊢; rw [hmore]; rw [hkk] at hrows; have HI1 := Aside0.mk (hI.out.below HJ.out HBO.out hb1); have hPA : PcAt w.heap.size ⟨A5, c5, rows⟩ w1 := PcAt.of (fun ad e => by have h1 := Kd.R_base hR5 ad.block (by rw [e]; rfl); have h2 := hI.out.z; have h3 := HWZ.out; omega) (Kd.R_reads' hR5).2.2 (Kd.R_reads' hR5).2.1 (by rw [← hrows, List.length_take]; have := HK.out; omega); obtain ⟨fn, tmps, assign, body, hy, hRd⟩ := HY.out pre ⟨A5, c5, rows⟩ w1 HI1.out.j hPA (by have h1 := HON.out.2.1; have h2 := HK.out.1; have h3 := HFL.out; have := Nat.le_mul_of_pos_left pre.length h2; omega); have HR5 := Aside0.mk hR5; have HRW := Aside0.mk hrows; have HMO := Aside0.mk hmore; have HB1 := Aside0.mk hb1; have HPA := Aside0.mk hPA; clear hPA hR5 hrows hmore hb1 x0 x1 x2 x3 x4 x5 x6 x7 x8 x9 x10 m0 m1 m2 m3 m4; dsimp only [pEncs] at hy)
   refine hRd.mono ?_
   rintro e W3 (⟨rfl, hJ3, -, hk3, hf3⟩ | ⟨rfl, hJx3, hf3⟩)
   ·have HI3 := Aside0.mk (HI1.out.round hJ3 hk3 HNE.out.1 HNE.out.2.1)
    have HK3 := Aside0.mk hk3
    clear hy hRd hJ3 hk3 hf3
    by_cases hr0 : rows = []
    ·subst hr0
     have hM0 : M.length = 0 := by
      have h1 := congrArg List.length HRW.out
      rw [List.length_take, List.length_nil] at h1
      have := HK.out.1
      omega
     have HXS := Aside0.mk (show PcOk F K ((pre ++ [(⟨A5, c5, []⟩ : Pc)]).map (·.rows)) ∧ F.length ≤ K * (pre ++ [(⟨A5, c5, []⟩ : Pc)]).length from by
      refine ⟨by rw [List.map_append]; exact hs.out.pc.snoc (by rw [List.length_map, HMD.out]; exact HRW.out.symm), ?_⟩
      have h1 := HMD.out
      have h2 := congrArg List.length h1
      rw [List.length_drop] at h2
      rw [List.length_append, Nat.mul_add]
      omega)
     gi_wp2_with fail
     exact leaves_marks W.heap.size (fun V => J (pre ++ [⟨A5, c5, []⟩]) V) (fun X Y q h hg hq ho => HJ.out _ X Y (some q) h hg (fun r e => by cases e; exact .inr ⟨hq, ho⟩))
      (fun V hV => ⟨_, results_none rfl _ _ _, ⟨_, rfl⟩, .inl ⟨_, HXS.out, hV⟩⟩) [] _ ⟨List.nodup_nil, by simp⟩ HI3.out.j
    ·obtain ⟨p, hp⟩ : ∃ p, rows.length = p + 1 := ⟨rows.length - 1, by have := List.length_pos_iff.2 hr0; omega⟩
     have hpl : p < rows.length := by omega
     have e0 : ((rows.length : Int) == 0) = false := beq_eq_false_iff_ne.2 (by omega)
     have e1 : (rows.length == 0) = false := beq_eq_false_iff_ne.2 (by omega)
     have hC : Kd.C k37 w1 A5 rows.length rows := (Kd.R_reads' HR5.out).2.2
     obtain ⟨ad, e, r0, r1, r2, r3⟩ := at_T37 hC (p : Int) (by omega) (by omega)
     subst e
     simp only [Int.toNat_natCast] at r0
     have hrn : rd_T37 rows (p : Int) = rows[p] := by unfold rd_T37; simp [List.getD, hpl]
     have hget : rows[p]? = some (rd_T37 rows (p : Int)) := by rw [hrn]; exact List.getElem?_eq_getElem hpl
     generalize rd_T37 rows (p : Int) = rr at hget r0 r1 r2 r3
     have hbk : (ad.add (p * 4)).block = ad.block := by unfold Addr.add; split <;> rfl
     have hge : wo.heap.size ≤ ad.block := Kd.R_base HR5.out ad.block (by simp [Value.ownBlock])
     have hzo := hI.out.z
     have r5 : W3.cell? (ad.add (p * 4)) = some (.int .u64 rr.f0) := HK3.out.cell r0 (by rw [hbk]; have := HBO.out; omega) (by rw [hbk]; have := HNE.out.2.2; omega) (by
      rw [hbk]
      intro h5
      have := (hI.out.o _ (h5.of_eq (HB1.out.block Bo (by have := HBO.out; omega)))).2
      omega)
     have hne5 : (⟨Bq, 10, none⟩ : Addr).block ≠ (ad.add (p * 4)).block := by rw [hbk]; have h1 := HNE.out.1.1; show Bq ≠ ad.block; omega
     have r5' : W3.drew.cell? (ad.add (p * 4)) = some (.int .u64 rr.f0) := r5
     have HI5 := Aside0.mk (HI3.out.below HJ.out HBO.out (below_drew1 (Below.refl _ W3)))
     have HNE5 := Aside0.mk hne5
     clear HI3 HK3 r5
     have hsm : rows.length ≤ 64 := HPA.out.small
     have hwr : wrap64 ((rows.length : Int) - 1) = (p : Int) := by rw [wrap64_id (by omega) (by omega)]; omega
     have HGET := Aside0.mk hget
     have HP := Aside0.mk hp
     have HR0 := Aside0.mk hr0
     clear hC r0 r1 r2 r3 hrn hget hge hzo hp hr0 hbk hne5
     gi_wp2_with fail
     refine region_normal ?_
     refine (wpIn_wide (n := _)).2 ?_
     refine start_ (n := 11) (S := fun w' => w'.cell? (ad.add (p * 4)) = some (.int .u64 rr.f0)) (ds := [10]) #[false, false, false, false, false, false, false, false, false, false, false] (by kernel_rfl) rfl rfl r5' (fun hHeld => ?_); refine with_tabW pieces_tab5 pieces_bits5 (fun HT_ HW_ => ?_)
     generalize W3.drew = W5 at r5' HI5 hHeld ⊢
     have hI6 := HI5.out.next HJ.out HNQ.out.1 HNQ.out.2 10 (.bool true) { q with from_ := true } rfl
     have HI7 := Aside0.mk (hI6.next HJ.out HNQ.out.1 HNQ.out.2 9 (.int .u64 rr.f0) { q with from_ := true, after := rr.f0 } rfl)
     have c10 : W5.cell? ⟨Bq, 10, none⟩ = some (.bool q.from_) := boxc_cell HI5.out.q 10
     have f10 := boxc_frozen HI5.out.q 10
     have c9 : (W5.setCell ⟨Bq, 10, none⟩ (.bool true)).cell? ⟨Bq, 9, none⟩ = some (.int .u64 q.after) := boxc_cell hI6.q 9
     have f9 := boxc_frozen hI6.q 9
     have r6 : (W5.setCell ⟨Bq, 10, none⟩ (.bool true)).cell? (ad.add (p * 4)) = some (.int .u64 rr.f0) := (World.cell?_of_block (Below.heap_setCell W5 ⟨Bq, 10, none⟩ (.bool true) _ (fun e => HNE5.out e.symm))).trans r5'
     clear hI6
     refine pure_ (i := 0) (N := some 22) (v := ?_) (a' := ?_) #[true, false, false, false, false, false, false, false, false, false, false] rfl rfl (any_of HT_.out (by kernel_rfl)) (fun _ _ _ h => by cases h.1) (Or.inl ⟨by rfl, ?_⟩) ?_ ?_
     rotate_left
     ·intro w'
      go_simp
      with_reducible rfl
     rotate_left
     ·simp only [Act.put, List.setIfInBounds_toArray, List.set_cons_zero, List.set_cons_succ, i64_w, i32_w]
      rfl
     refine pure_ (i := 1) (N := some 23) (v := ?_) (a' := ?_) #[true, true, false, false, false, false, false, false, false, false, false] rfl rfl (any_of HT_.out (by kernel_rfl)) (fun _ _ _ h => by cases h.1) (Or.inl ⟨by rfl, ?_⟩) ?_ ?_
     rotate_left
     ·intro w'
      go_simp
      with_reducible rfl
     rotate_left
     ·simp only [Act.put, List.setIfInBounds_toArray, List.set_cons_zero, List.set_cons_succ, i64_w, i32_w]
      rfl
     refine pure_ (i := 2) (N := some 24) (v := ?_) (a' := ?_) #[true, true, true, false, false, false, false, false, false, false, false] rfl rfl (any_of HT_.out (by kernel_rfl)) (fun _ _ _ h => by cases h.1) (Or.inl ⟨by rfl, ?_⟩) ?_ ?_
     rotate_left
     ·intro w'
      go_simp
      with_reducible rfl
     rotate_left
     ·simp only [Act.put, List.setIfInBounds_toArray, List.set_cons_zero, List.set_cons_succ, i64_w, i32_w]
      rfl
     refine pure_ (i := 3) (N := some 25) (v := ?_) (a' := ?_) #[true, true, true, true, false, false, false, false, false, false, false] rfl rfl (any_of HT_.out (by kernel_rfl)) (fun _ _ _ h => by cases h.1) (Or.inl ⟨by rfl, ?_⟩) ?_ ?_
     rotate_left
     ·intro w'
      go_simp
      with_reducible rfl
     rotate_left
     ·simp only [Act.put, List.setIfInBounds_toArray, List.set_cons_zero, List.set_cons_succ, i64_w, i32_w]
      rfl
     refine pure_ (i := 4) (N := some 26) (v := ?_) (a' := ?_) #[true, true, true, true, true, false, false, false, false, false, false] rfl rfl (any_of HT_.out (by kernel_rfl)) (fun _ _ _ h => by cases h.1) (Or.inl ⟨by rfl, ?_⟩) ?_ ?_
     rotate_left
     ·intro w'
      go_simp
      with_reducible rfl
     rotate_left
     ·simp only [Act.put, List.setIfInBounds_toArray, List.set_cons_zero, List.set_cons_succ, i64_w, i32_w]
      rfl
     refine pure_ (i := 5) (N := some 27) (v := ?_) (a' := ?_) #[true, true, true, true, true, true, false, false, false, false, false] rfl rfl (any_of HT_.out (by kernel_rfl)) (fun _ _ _ h => by cases h.1) (Or.inl ⟨by rfl, ?_⟩) ?_ ?_
     rotate_left
     ·intro w'
      go_simp
      with_reducible rfl
     rotate_left
     ·simp only [Act.put, List.setIfInBounds_toArray, List.set_cons_zero, List.set_cons_succ, i64_w, i32_w]
      rfl
     refine take_ (i := 6) (N := some 28) (v := ?_) (a' := ?_) #[true, true, true, true, true, true, true, false, false, false, false] rfl rfl (take_ofW HT_.out HW_.out (by kernel_rfl)) (fun _ _ _ h => by cases h.1) (Or.inl ⟨by rfl, ?_⟩) hHeld ?_ ?_
     rotate_left
     ·rintro w' s0
      go_simp
      with_reducible rfl
     rotate_left
     ·simp only [Act.put, List.setIfInBounds_toArray, List.set_cons_zero, List.set_cons_succ, i64_w, i32_w]
      rfl
     refine pure_ (i := 7) (N := some 29) (v := ?_) (a' := ?_) #[true, true, true, true, true, true, true, true, false, false, false] rfl rfl (any_of HT_.out (by kernel_rfl)) (fun _ _ _ h => by cases h.1) (Or.inl ⟨by rfl, ?_⟩) ?_ ?_
     rotate_left
     ·intro w'
      go_simp
      with_reducible rfl
     rotate_left
     ·simp only [Act.put, List.setIfInBounds_toArray, List.set_cons_zero, List.set_cons_succ, i64_w, i32_w]
      rfl
     refine oA 8 HT_ (fun K hK => ?_)
     refine skip_ (w1 := ?_) (by rfl) rfl ?_ ?_
     rotate_left
     ·go_simp
      rfl
     refine hK.out _ _ r6 (fun hHeld => ?_)
     clear hK K
     refine pure_ (i := 9) (N := some 30) (v := ?_) (a' := ?_) #[true, true, true, true, true, true, true, true, true, true, false] rfl rfl (any_of HT_.out (by kernel_rfl)) (fun _ _ _ h => by cases h.1) (Or.inl ⟨by rfl, ?_⟩) ?_ ?_
     rotate_left
     ·intro w'
      go_simp
      with_reducible rfl
     rotate_left
     ·simp only [Act.put, List.setIfInBounds_toArray, List.set_cons_zero, List.set_cons_succ, i64_w, i32_w]
      rfl
     refine last_ (i := 10) (N := none) #[true, true, true, true, true, true, true, true, true, true, true] rfl rfl (one_of HT_.out (by kernel_rfl)) (by decide) (fun K hK => ?_)
     refine skip_ (w1 := ?_) (by rfl) rfl ?_ ?_
     rotate_left
     ·go_simp
      rfl
     refine hK.out _ _ ?_
     clear hK K
     refine done_ (done_of HT_.out (by kernel_rfl)) ?_
     refine ⟨rfl, ?_⟩
     gi_wp2_with fail
     refine ⟨pre ++ [⟨some ad, c5, rows⟩], { q with from_ := true, after := rr.f0 }, more, _, _, _, _, _, _, _, _, _, _, _, _, _, _, _, _, _, _, _, _, _, _, _, _, _, _, rfl, ⟨?_⟩, HI7⟩
     have hrw := HRW.out
     have hmd := HMD.out
     have hon := HON.out
     have hkq := hs.out.kk
     have hqk := check_k0 hs.out.ok
     have hk := HK.out
     have hlen : rows.length = min K M.length := by rw [← hrw, List.length_take]
     have hML : M.length = F.length - K * pre.length := by rw [← hmd, List.length_drop]
     have hmr : M[p]? = some rr := by
      have h1 := HGET.out
      rw [← hrw, List.getElem?_take] at h1
      rw [if_pos (by have := HP.out; omega)] at h1
      exact h1
     have hrl : rr ∈ l := mem_full hs.out.k3 (by rw [hon.1]; exact List.mem_of_getElem? hmr)
     have hwf := bounds_u64 (HWL.out rr hrl).w0
     have wq := hs.out.wq
     refine ⟨hs.out.ok, hs.out.k3, ⟨wq.kind, wq.b0, wq.b1, wq.b2, wq.b3, wq.x, wq.y, wq.sq, wq.k, hwf⟩, hkq, by rw [List.map_append]; exact hs.out.pc.snoc (by rw [List.length_map, hmd]; exact hrw.symm), fun hm => ?_, fun hm => ?_⟩
     ·have hm1 : q.k < (M.length : Int) := by have h1 := HMO.out; rw [hm] at h1; exact of_decide_eq_true h1
      have hrK : rows.length = K := by omega
      have hnx := full_next HG.out hs.out.k3 hon.1 (n := rows.length) (by omega) (by omega) (r := rr) (by rw [HP.out]; exact hmr)
      rw [hnx, hrK, ← hmd, List.drop_drop, List.length_append, List.length_singleton, Nat.mul_add, Nat.mul_one]
      refine ⟨rfl, by omega, by omega⟩
     ·have hm1 : ¬ q.k < (M.length : Int) := by have h1 := HMO.out; rw [hm] at h1; exact of_decide_eq_false h1
      rw [List.length_append, List.length_singleton, Nat.mul_add, Nat.mul_one]
      omega
   ·have HXS := Aside0.mk (show PcOk F K ((pre ++ [(⟨A5, c5, rows⟩ : Pc)]).map (·.rows)) from by rw [List.map_append]; exact hs.out.pc.snoc (by rw [List.length_map, HMD.out]; exact HRW.out.symm))
    clear hy hRd
    gi_wp2_with fail
    exact leaves_marks W.heap.size (fun V => Jx (pre ++ [⟨A5, c5, rows⟩]) V) (fun X Y q h hg hq ho => HJX.out _ X Y (some q) h hg (fun r e => by cases e; exact .inr ⟨hq, ho⟩))
     (fun V hV => ⟨_, results_none rfl _ _ _, ⟨_, rfl⟩, .inr ⟨_, HXS.out, hV⟩⟩) [] _ ⟨List.nodup_nil, by simp⟩ hJx3
end Go.Proofs.YtoimgijhekahhaaGreat.P

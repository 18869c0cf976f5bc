/- Layer 9, quad: the nearest rows (quad.Near): walked. -/
import Derived.Test.YtoimgijhekahhaaGreatNearB
import Derived.Scope
import Derived.Test.YtoimgijhekahhaaGreatStep
import Derived.WalkMore
import Derived.Test.YtoimgijhekahhaaGreatPx9
namespace Go.Proofs.YtoimgijhekahhaaGreat.P
open Go.RowKit Go.Proofs.YtoimgijhekahhaaGreatOwn Go.Proofs.YtoimgijhekahhaaGreatW.PrintWords Go.Proofs.YtoimgijhekahhaaGreatW.PrintLast Go.Proofs.YtoimgijhekahhaaGreatW.PrintMore
set_option linter.unusedVariables false
set_option linter.unusedSimpArgs false
attribute [local go_sem] max2_int min2_int max_two min_two
structure MemT (w : World) (t : Th9) : Prop where
 m : t.leaf = false → (t.c0 = t.node.f0.f0 ∧ t.c1 = t.node.f0.f1 ∧ t.c2 = t.node.f0.f2) ∧ (t.n3 = t.node.f1.length ∧ t.n3 ≤ t.k3 ∧ Kd.C k37 w t.A3 t.node.f1.length t.node.f1) ∧ (t.n4 = t.node.f2.length ∧ t.n4 ≤ t.k4 ∧ Kd.C k44 w t.A4 t.node.f2.length t.node.f2)
theorem q_below9 {V V1 : World} {base e size n : Nat} {v : Value} {xs : List Value} (h : QRow V base e size v n xs) (hb : Below V.heap.size V V1) : QRow V1 base e size v n xs := q_move h (fun k hk => hb.block k (q_lt h k hk))
theorem q_grown9 {V V1 : World} {base e size n : Nat} {v : Value} {xs : List Value} {row : Option Nat} (h : QRow V base e size v n xs) (hg : V.grownBy V1 row) (hr : ∀ k, v.ownBlock = some k → some k ≠ row) : QRow V1 base e size v n xs := q_move h (fun k hk => hg.block k (q_lt h k hk) (hr k hk))
theorem q_apart9 {V : World} {base e e' size n : Nat} {v u : Value} {xs : List Value} (h : QRow V base e size v n xs) (hu : ∀ k, u.ownBlock = some k → ∃ cells, V.heap[k]? = some (.cells cells e' (0, 0))) (hne : e ≠ e') : ∀ k, v.ownBlock = some k → some k ≠ u.ownBlock := by
 intro k hk he
 obtain ⟨_, c1, h1⟩ := q_typed h k hk
 obtain ⟨c2, h2⟩ := hu k he.symm
 rw [h1] at h2
 injection h2 with h2
 injection h2 with _ h2
 exact hne h2
theorem q_one {V : World} {base g : Nat} {t : Th9} (h : V.heap[g]? = some (.cells (encT t).toArray 89 (0, 0))) (hb : base ≤ g) : QRow V base 89 11 (.slice (some ⟨g, 0, none⟩) 1 1) 1 ([t].flatMap encT) := by
 refine ⟨by simp [encT], .inr ⟨g, 0, 1, _, rfl, hb, h, Nat.le_refl _, by decide, by simp [encT], by simp [encT]⟩⟩
theorem q_head {V : World} {base n c : Nat} {A : Option Addr} {t : Th9} {q : List Th9} (h : QRow V base 89 11 (.slice A n c) n ((t :: q).flatMap encT)) (hn : 0 < n) : ∃ g o, A = some ⟨g, o, none⟩ ∧ base ≤ g ∧ ∀ j u, (encT t)[j]? = some u → V.cell? ⟨g, o + j, none⟩ = some u := by
 obtain ⟨ad, e, hc⟩ := q_cells h hn
 rcases h.2 with ⟨h0, _⟩ | ⟨g, off, cap, cur, hv, hb, _⟩
 ·omega
 ·injection hv with hA _ _
  rw [e] at hA
  obtain rfl := Option.some.inj hA
  refine ⟨g, off * 11, e, hb, fun j u hu => ?_⟩
  have hj := (List.getElem?_eq_some_iff.1 hu).1
  have := hc j u (by rw [List.flatMap_cons, List.getElem?_append_left hj]; exact hu)
  rw [add_at] at this
  exact this
def near_T13 : Bool × List (List Nat × List Nat) := (true, [([], []), ([], []), ([], []), ([], []), ([1, 2, 3], [1, 2, 3]), ([], []), ([4, 5], [4, 5]), ([6], [6]), ([0, 7, 4], [0, 7]), ([8, 8, 0, 1, 2, 3, 4, 5, 6, 7, 8], [0, 8])])
def near_B13 : List Nat := [0, 0, 0, 0, 14, 0, 62, 126, 255, 511]
theorem near_tab13 : rtab .any (opsOf Tryz.f36 13) = near_T13 := by kernel_rfl
theorem near_bits13 : waitsOk near_T13.2 near_B13 = true := by kernel_rfl
theorem q_ne9 {V : World} {base e t size n g : Nat} {v : Value} {xs : List Value} {cs : Array Value} (h : QRow V base e size v n xs) (hb : V.heap[g]? = some (.cells cs t (0, 0))) (hne : e ≠ t) : some g ≠ v.ownBlock := by
 intro he
 obtain ⟨_, c1, h1⟩ := q_typed h g he.symm
 rw [hb] at h1
 injection h1 with h1
 injection h1 with _ h1
 exact hne h1.symm
set_option maxRecDepth 100000 in
set_option maxHeartbeats 8000000 in
theorem near_go (a0_0 a0_1 a0_2 : Int) (A0_3 : Option Addr) (c0_3 : Nat) (l0_3 : List S37) (A0_4 : Option Addr) (c0_4 : Nat) (l0_4 : List S44) (a1 a2 a3 : Int) (w : World) (hr0_3 : Kd.C k37 w A0_3 l0_3.length l0_3) (hc0_3 : l0_3.length ≤ c0_3) (hr0_4 : Kd.C k44 w A0_4 l0_4.length l0_4) (hc0_4 : l0_4.length ≤ c0_4)
  (h1 : a1 < 2147483648) (h2 : a2 < 2147483648) (h3 : 0 ≤ a3) (S : List S37) (hS : S.Pairwise (keyLt a1 a2)) (hP : (rowsL (fun _ => false) [⟨⟨a0_0, a0_1, a0_2⟩, l0_3, l0_4⟩]).Perm S) (hG : goodL a1 a2 l0_4) (hF : ∀ r ∈ l0_3 ++ rowsL (fun _ => false) l0_4, 0 ≤ dstR a1 a2 r) (hW : wN ⟨⟨a0_0, a0_1, a0_2⟩, l0_3, l0_4⟩ ≤ 100000) :
  Calls Tryz.prog 36 #[.agg #[.int .u32 a0_0, .int .u32 a0_1, .int .i64 a0_2, .slice A0_3 l0_3.length c0_3, .slice A0_4 l0_4.length c0_4], .int .u32 a1, .int .u32 a2, .int .i64 a3] w fun e w' => ∃ v0_ : Value, e = .returned (.tuple #[v0_, .int .i64 0]) ∧ Kd.R k37 37 w' w.heap.size (fun _ => True) v0_ (S.take a3.toNat) ∧ Below w.heap.size w w' := by
 obtain ⟨m, hm⟩ : ∃ m, (if a1 < a2 then a2 else a1) = m := ⟨_, rfl⟩
 have hmb : decide (2147483648 ≤ m) = false := decide_eq_false (by rw [← hm]; split <;> omega)
 have h3b : decide (a3 < 0) = false := decide_eq_false (by omega)
 have HR3 := Aside0.mk hr0_3
 have HC3 := Aside0.mk hc0_3
 have HR4 := Aside0.mk hr0_4
 have HC4 := Aside0.mk hc0_4
 have HS := Aside0.mk hS
 have HP := Aside0.mk hP
 have HG := Aside0.mk hG
 have HF := Aside0.mk hF
 have HW := Aside0.mk hW
 have H3 := Aside0.mk h3
 clear hr0_3 hc0_3 hr0_4 hc0_4 h1 h2 hS hP hG hF hW h3
 have hu33 := Tryz.underlying44
 have hu74 := Tryz.underlying89
 go_enter Tryz.func36, Tryz.ntmps36
 go_wp2_with fail
 refine wp_scope_straight ?_
 go_wp2_with fail
 try apply wp_label
 go_wp2_with fail
 go_loopg [10, 11] (wN ⟨⟨a0_0, a0_1, a0_2⟩, l0_3, l0_4⟩) (fun kq vo vq V => ∃ (out : List S37) (q : List Th9), Aside0 (NearInv a1 a2 S q out) ∧ Aside0 (∀ t ∈ q, MemT w t) ∧ Aside0 (wQ q ≤ kq ∧ kq ≤ 100000) ∧ Aside0 (out.length ≤ a3.toNat) ∧ Aside0 (Kd.R k37 37 V w.heap.size (fun _ => True) vo out) ∧ Aside0 (QRow V w.heap.size 89 11 vq q.length (q.flatMap encT)) ∧ Aside0 (Below w.heap.size w V))
 case atStart =>
  refine ⟨[], [⟨0, a0_0, a0_1, a0_2, A0_3, l0_3.length, c0_3, A0_4, l0_4.length, c0_4, ⟨0, 0, 0, ⟨#[]⟩⟩, false, ⟨⟨a0_0, a0_1, a0_2⟩, l0_3, l0_4⟩⟩], ⟨⟨⟨S, by simp, ?_⟩, List.pairwise_singleton _ _, ?_⟩⟩, ⟨?_⟩, ⟨by simp [wQ, wT], HW.out⟩, ⟨by simp⟩, ⟨Kd.R_nil _ _ _ _ _⟩, ⟨q_one ?_ (by simp)⟩, ⟨below_alloc' (below_alloc' (Below.refl _ w) _) _⟩⟩
  ·have := HP.out
   rw [rowsL, rowsL, rowsN_eq, List.append_nil, if_neg (by simp)] at this
   simpa [rowsT] using this
  ·intro t ht
   obtain rfl := List.mem_singleton.1 ht
   exact ⟨fun h => (by cases h), fun _ => ⟨fun r hr => HF.out r (by simpa [rowsT] using hr), HG.out⟩⟩
  ·intro t ht
   obtain rfl := List.mem_singleton.1 ht
   exact ⟨fun _ => ⟨⟨rfl, rfl, rfl⟩, ⟨rfl, HC3.out, HR3.out⟩, ⟨rfl, HC4.out, HR4.out⟩⟩⟩
  ·have := boxc_new (w.alloc (.cells #[.int .u32 a0_0, .int .u32 a0_1, .int .i64 a0_2, .slice A0_3 l0_3.length c0_3, .slice A0_4 l0_4.length c0_4] 44)) (encT ⟨0, a0_0, a0_1, a0_2, A0_3, l0_3.length, c0_3, A0_4, l0_4.length, c0_4, ⟨0, 0, 0, ⟨#[]⟩⟩, false, ⟨⟨a0_0, a0_1, a0_2⟩, l0_3, l0_4⟩⟩).toArray 89
   rw [World.size_alloc] at this
   exact this
 case round =>
  obtain ⟨out, q, hI, hM, hq, ho, hO, hQ, hB⟩ := hrel
  obtain ⟨Ao, co, eo⟩ := Kd.R_slice hO.out
  obtain ⟨Aq, cq, eq, hcq⟩ := q_slice hQ.out
  subst eo eq
  by_cases hend : q = [] ∨ a3.toNat ≤ out.length
  ·have hres := Aside0.mk (hI.out.done ho.out hend)
   have hgt : ((decide ((q.length : Int) > 0)) && decide ((out.length : Int) < a3)) = false := by
    rcases hend with h | h
    ·rw [h]; rfl
    ·have : ¬ (out.length : Int) < a3 := by have := H3.out; omega
     simp [this]
   by_cases hq0 : q = []
   ·subst hq0
    clear hgt
    go_wp2_with fail
    refine bodyPost_ret (v := .tuple #[.slice Ao out.length co, .int .i64 0]) (by simp [results, Tryz.results36, go_sem]) rfl ?_
    exact ⟨_, rfl, by rw [← hres.out]; exact hO.out, hB.out⟩
   ·have hq1 : decide (0 < (q.length : Int)) = true := decide_eq_true (by have := List.length_pos_iff.2 hq0; omega)
    have ho1 : decide ((out.length : Int) < a3) = false := decide_eq_false (by have := H3.out; have := hend.resolve_left hq0; omega)
    have hq2 : decide (0 < q.length) = true := decide_eq_true (List.length_pos_iff.2 hq0)
    clear hgt
    go_wp2
    try simp only [Exit.noGoto_ret]
    try go_wp2
    refine bodyPost_ret (v := .tuple #[.slice Ao out.length co, .int .i64 0]) (by simp [results, Tryz.results36, go_sem]) rfl ?_
    exact ⟨_, rfl, by rw [← hres.out]; exact hO.out, hB.out⟩
  ·have hq0 : q ≠ [] := fun e => hend (.inl e)
   have hlt : (out.length : Int) < a3 := by have := H3.out; have : ¬ a3.toNat ≤ out.length := fun e => hend (.inr e); omega
   have ho1 : decide ((out.length : Int) < a3) = true := decide_eq_true hlt
   obtain ⟨⟨far, x0, x1, x2, A3, n3, k3, A4, n4, k4, rw_, lf, nd⟩, q', rfl⟩ := List.exists_cons_of_ne_nil hq0
   have hq2 : decide (0 < q'.length + 1) = true := decide_eq_true (Nat.succ_pos _)
   have HLT := Aside0.mk hlt
   clear hend hq0 hlt
   obtain ⟨gq, oq, e, hgq, hcells⟩ := q_head hQ.out (by simp)
   subst e
   have y0 := hcells 0 _ rfl
   rw [Nat.add_zero] at y0
   have y1 := hcells 1 _ rfl
   have y2 := hcells 2 _ rfl
   have y3 := hcells 3 _ rfl
   have y4 := hcells 4 _ rfl
   have y5 := hcells 5 _ rfl
   have y6 := hcells 6 _ rfl
   have y7 := hcells 7 _ rfl
   have y8 := hcells 8 _ rfl
   have y9 := hcells 9 _ rfl
   have y10 := hcells 10 _ rfl
   clear hcells
   simp only [List.length_cons] at *
   obtain ⟨i0, hi, hi0, hi1, hi2⟩ := info_parts info74_
   have hcut := cut_from (P := Tryz.prog) 90 89 .i64 Tryz.underlying90 hi 11 hi1 (some ⟨gq, oq, none⟩) (q'.length + 1) cq 1 (by omega) (by omega)
   have hQ2 := q_drop (k := 1) hQ.out (by omega)
   have e1 : ((1 : Int).toNat) = 1 := rfl
   rw [e1] at hcut
   have e2 : ((Th9.mk far x0 x1 x2 A3 n3 k3 A4 n4 k4 rw_ lf nd :: q').flatMap encT).drop (1 * 11) = q'.flatMap encT := by rw [List.flatMap_cons]; exact List.drop_left' rfl
   rw [e2, Nat.add_sub_cancel] at hQ2
   rw [Nat.add_sub_cancel] at hcut
   have HQ2 := Aside0.mk hQ2
   clear hQ2 e1 e2 hi hi0 hi1 hi2
   generalize hA2 : (if cq = 1 then some ⟨gq, oq, none⟩ else Option.map (fun x => x.add (1 * 11)) (some (⟨gq, oq, none⟩ : Addr))) = A2 at hcut HQ2
   generalize cq - 1 = c2 at hcut HQ2
   clear hA2
   cases lf with
   | true =>
    have hol : out.length ≤ 100000 := by
     obtain ⟨⟨Rr, hR, _⟩, _, _⟩ := hI.out
     have h1 : out.length ≤ S.length := by rw [hR, List.length_append]; omega
     have h2 := HP.out.length_eq
     have h3 := wL_rows [⟨⟨a0_0, a0_1, a0_2⟩, l0_3, l0_4⟩]
     have h4 := HW.out
     rw [wL, wL, Nat.add_zero] at h3
     omega
    have HOL := Aside0.mk hol
    clear hol
    go_wp2_with ((with_reducible refine gate_builtin (b := .append) (xs := #[.tmp 46, .tmp 49]) rfl ?_); at_builtin; refine Kd.R_append k37 (w0 := w) w.heap.size rfl (.tmp 46) (.tmp 49) 22 37 (.agg #[(.int .u64 0), (.int .u32 0), (.int .u32 0), (.string ⟨#[]⟩)]) 32 rfl Tryz.underlying22 info37 rfl (by decide) (by decide) (.slice Ao out.length co) out rw_ [.int .u64 rw_.f0, .int .u32 rw_.f1, .int .u32 rw_.f2, .string rw_.f3] (fun _ => True) (fun _ => False) rfl (by rw [World.size_alloc]; rfl) ?aP (fun _ hk => hk.elim) ?aF ?aO ?aB ?aS ?aL ?_; (case aP => exact k37_mkM _ _ _ rw_); (case aF => exact (fun _ _ => trivial)); (case aO => exact Kd.R_alloc hO.out _); (case aB => exact below_alloc' hB.out _); (case aS => exact Nat.le_trans hB.out.size (by simp)); (case aL => have := HOL.out; omega); intro v5 w5 ho5 hb5 hg5 hat5; have HO5 := Aside0.mk ho5; have HB5 := Aside0.mk hb5; have HG5 := Aside0.mk hg5; clear ho5 hb5 hg5 hat5)
    obtain ⟨A5, c5, e5⟩ := Kd.R_slice HO5.out
    subst e5
    go_wp2_with fail
    go_roundg (wQ q')
    case rel => exact ⟨out ++ [rw_], q', ⟨hI.out.pop HS.out rfl⟩, ⟨fun t ht => hM.out t (List.mem_cons_of_mem _ ht)⟩, ⟨Nat.le_refl _, by have h1 := hq.out; rw [wQ_cons] at h1; omega⟩, ⟨by have := HLT.out; rw [List.length_append, List.length_singleton]; omega⟩, HO5, ⟨q_grown9 (q_below9 HQ2.out (below_alloc' (Below.refl _ wr) (.cells #[.int .u64 far, .int .u32 x0, .int .u32 x1, .int .i64 x2, .slice A3 n3 k3, .slice A4 n4 k4, .int .u64 rw_.f0, .int .u32 rw_.f1, .int .u32 rw_.f2, .string rw_.f3, .bool true] 89))) HG5.out (q_apart9 (q_below9 HQ2.out (below_alloc' (Below.refl _ wr) (.cells #[.int .u64 far, .int .u32 x0, .int .u32 x1, .int .i64 x2, .slice A3 n3 k3, .slice A4 n4 k4, .int .u64 rw_.f0, .int .u32 rw_.f1, .int .u32 rw_.f2, .string rw_.f3, .bool true] 89))) (Kd.R_typed (Kd.R_alloc hO.out (.cells #[.int .u64 far, .int .u32 x0, .int .u32 x1, .int .i64 x2, .slice A3 n3 k3, .slice A4 n4 k4, .int .u64 rw_.f0, .int .u32 rw_.f1, .int .u32 rw_.f2, .string rw_.f3, .bool true] 89))) (by decide))⟩, HB5⟩
    case measure => have h1 := hq.out; rw [wQ_cons] at h1; have := wT_pos (Th9.mk far x0 x1 x2 A3 n3 k3 A4 n4 k4 rw_ true nd); omega
   | false =>
    obtain ⟨⟨e0, e1, e2⟩, ⟨e3, hk3, hC3⟩, e4, hk4, hC4⟩ := (hM.out _ List.mem_cons_self).m rfl
    dsimp only at e0 e1 e2 e3 e4 hk3 hk4 hC3 hC4
    subst e0 e1 e2 e3 e4
    have HC3_ := Aside0.mk hC3
    have HC4_ := Aside0.mk hC4
    have hwq := hq.out
    rw [wQ_cons] at hwq
    have hwt : wT (Th9.mk far nd.f0.f0 nd.f0.f1 nd.f0.f2 A3 nd.f1.length k3 A4 nd.f2.length k4 rw_ false nd) = 1 + nd.f1.length + wL nd.f2 := by unfold wT; rw [if_neg (by simp), wN_eq]
    rw [hwt] at hwq
    have HWQ := Aside0.mk hwq
    have hlq := wQ_len q'
    have HLQ := Aside0.mk (show q'.length + nd.f1.length + nd.f2.length ≤ 100000 by have := wL_len nd.f2; omega)
    have hl3 : nd.f1.length ≤ 100000 := by omega
    have hl4 : nd.f2.length ≤ 100000 := by have := HLQ.out; omega
    clear hC3 hC4 hwq hwt hlq hQ
    obtain ⟨wo, rfl⟩ : ∃ x, x = wr := ⟨_, rfl⟩
    have HLT0 := Aside0.mk (show ∀ k, (Value.slice A2 q'.length c2).ownBlock = some k → k ≠ wo.heap.size from fun k hk => by have := q_lt HQ2.out k hk; omega)
    go_wp2_with fail
    go_loopw [11, 55] (fun vq i V => ∃ j : Nat, i = .int .i64 (j : Int) ∧ j ≤ nd.f1.length ∧ Aside0 (QRow V w.heap.size 89 11 vq (q' ++ (nd.f1.take j).map (thR a1 a2)).length ((q' ++ (nd.f1.take j).map (thR a1 a2)).flatMap encT)) ∧ Aside0 (∀ k, vq.ownBlock = some k → k ≠ wo.heap.size) ∧ Aside0 (Below w.heap.size w V) ∧ Aside0 (Kd.R k37 37 V w.heap.size (fun _ => True) (.slice Ao out.length co) out) ∧ Aside0 (V.heap[wo.heap.size]? = some (.cells #[.int .u64 far, .int .u32 nd.f0.f0, .int .u32 nd.f0.f1, .int .i64 nd.f0.f2, .slice A3 nd.f1.length k3, .slice A4 nd.f2.length k4, .int .u64 rw_.f0, .int .u32 rw_.f1, .int .u32 rw_.f2, .string rw_.f3, .bool false] 89 (0, 0)))) (fun _ i _ => nd.f1.length - (intOf i).toNat)
    case atStart =>
     exact ⟨0, rfl, Nat.zero_le _, ⟨by simpa using q_below9 HQ2.out (below_alloc' (Below.refl _ wo) (.cells #[.int .u64 far, .int .u32 nd.f0.f0, .int .u32 nd.f0.f1, .int .i64 nd.f0.f2, .slice A3 nd.f1.length k3, .slice A4 nd.f2.length k4, .int .u64 rw_.f0, .int .u32 rw_.f1, .int .u32 rw_.f2, .string rw_.f3, .bool false] 89))⟩, HLT0, ⟨below_alloc' hB.out _⟩, ⟨Kd.R_alloc hO.out _⟩, ⟨boxc_new wo #[.int .u64 far, .int .u32 nd.f0.f0, .int .u32 nd.f0.f1, .int .i64 nd.f0.f2, .slice A3 nd.f1.length k3, .slice A4 nd.f2.length k4, .int .u64 rw_.f0, .int .u32 rw_.f1, .int .u32 rw_.f2, .string rw_.f3, .bool false] 89⟩⟩
    case round =>
     clear hB hO hcut
     obtain ⟨j, rfl, hj, hQ, hNB, hB, hO, hT⟩ := hrel
     obtain ⟨L, hL⟩ : ∃ L, q' ++ (nd.f1.take j).map (thR a1 a2) = L := ⟨_, rfl⟩
     rw [hL] at hQ
     have HL := Aside0.mk hL
     clear hL
     obtain ⟨Av, cv, ev, hcv⟩ := q_slice hQ.out
     subst ev
     by_cases hj2 : j < nd.f1.length
     ·obtain ⟨ad, e, r0, r1, r2, r3⟩ := at_T37 HC3_.out (j : Int) (by omega) (by omega)
      cases e
      simp only [Int.toNat_natCast] at r0 r1 r2 r3
      have hrn : rd_T37 nd.f1 (j : Int) = nd.f1[j] := by unfold rd_T37; simp [List.getD, hj2]
      have hget : nd.f1.take (j + 1) = nd.f1.take j ++ [rd_T37 nd.f1 (j : Int)] := by rw [hrn, List.take_succ_eq_append_getElem hj2]
      generalize hr : rd_T37 nd.f1 (j : Int) = r at *
      clear hrn hr
      replace r0 := (hB.out.cell (World.block_lt_of_cell? w _ r0)).trans r0
      replace r1 := (hB.out.cell (World.block_lt_of_cell? w _ r1)).trans r1
      replace r2 := (hB.out.cell (World.block_lt_of_cell? w _ r2)).trans r2
      replace r3 := (hB.out.cell (World.block_lt_of_cell? w _ r3)).trans r3
      have HGET := Aside0.mk hget
      have hfar : quad_far.f 1 r.f0 r.f1 r.f2 r.f3 a1 a2 = some (dstR a1 a2 r) := by
       obtain ⟨v, hv⟩ := quad_far.tot 0 r.f0 r.f1 r.f2 r.f3 a1 a2
       unfold dstR
       rw [hv]
      have HFAR := Aside0.mk hfar
      clear hget hfar
      go_wp2_with fail
      have n1_ := Aside0.mk (below_drew1 (below_alloc' hB.out (.cells #[.int .u64 r.f0, .int .u32 r.f1, .int .u32 r.f2, .string r.f3] 37)))
      have n2_ := Aside0.mk (blk_drew (boxc_alloc hT.out (.cells #[.int .u64 r.f0, .int .u32 r.f1, .int .u32 r.f2, .string r.f3] 37)))
      have n3_ := Aside0.mk (blk_drew (boxc_new wr #[.int .u64 r.f0, .int .u32 r.f1, .int .u32 r.f2, .string r.f3] 37))
      have n4_ := Aside0.mk (Kd.R_drew (Kd.R_alloc hO.out (.cells #[.int .u64 r.f0, .int .u32 r.f1, .int .u32 r.f2, .string r.f3] 37)))
      have n5_ := Aside0.mk (q_below9 hQ.out (below_drew1 (below_alloc' (Below.refl _ wr) (.cells #[.int .u64 r.f0, .int .u32 r.f1, .int .u32 r.f2, .string r.f3] 37))))
      clear hB hT hO hQ r0 r1 r2 r3
      have hB := n1_
      have hT := n2_
      have H14 := n3_
      have hO := n4_
      have hQ := n5_
      clear n1_ n2_ n3_ n4_ n5_
      refine start_ (n := 10) (S := fun w' => w'.cell? ⟨wr.heap.size, 0, none⟩ = some (.int .u64 r.f0) ∧ w'.cell? ⟨wr.heap.size, 1, none⟩ = some (.int .u32 r.f1) ∧ w'.cell? ⟨wr.heap.size, 2, none⟩ = some (.int .u32 r.f2) ∧ w'.cell? ⟨wr.heap.size, 3, none⟩ = some (.string r.f3)) (ds := []) #[false, false, false, false, false, false, false, false, false, false] (by kernel_rfl) rfl rfl ⟨(blk_cell (H14.out) 0).trans rfl, (blk_cell (H14.out) 1).trans rfl, (blk_cell (H14.out) 2).trans rfl, (blk_cell (H14.out) 3).trans rfl⟩ (fun hHeld => ?_); refine with_tabW near_tab13 near_bits13 (fun HT_ HW_ => ?_)
      generalize (wr.alloc (.cells #[.int .u64 r.f0, .int .u32 r.f1, .int .u32 r.f2, .string r.f3] 37)).drew = w2 at hB hT H14 hO hQ hHeld ⊢
      refine pA 0 HT_ ?_
      refine tA 1 HT_ HW_ ?_
      refine pA 2 HT_ ?_
      refine pA 3 HT_ ?_
      refine tA 5 HT_ HW_ ?_
      refine oA 4 HT_ (fun K hK => ?_)
      refine goes_ Tryz.func55 (by kernel_rfl) rfl #[.agg #[.int .u64 r.f0, .int .u32 r.f1, .int .u32 r.f2, .string r.f3], .int .u32 a1, .int .u32 a2] (by rfl) rfl rfl (by simp only [List.map_toArray, List.map_cons, List.map_nil]; rfl) ?_
      refine (quad_far.calls 1 r.f0 r.f1 r.f2 r.f3 a1 a2 (dstR a1 a2 r) _ HFAR.out).mono ?_
      rintro e w3 ⟨rfl, hb3⟩
      refine ⟨_, rfl, ?_⟩
      have n1_ := Aside0.mk (below_call hB.out hb3)
      have n2_ := Aside0.mk (boxc_below hT.out hb3)
      have n3_ := Aside0.mk (boxc_below H14.out hb3)
      have n4_ := Aside0.mk (Kd.R_below hO.out hb3)
      have n5_ := Aside0.mk (q_below9 hQ.out hb3)
      clear hB hT H14 hO hQ hb3
      have hB := n1_
      have hT := n2_
      have H14 := n3_
      have hO := n4_
      have hQ := n5_
      clear n1_ n2_ n3_ n4_ n5_
      refine hK.out _ _ ⟨(blk_cell (H14.out) 0).trans rfl, (blk_cell (H14.out) 1).trans rfl, (blk_cell (H14.out) 2).trans rfl, (blk_cell (H14.out) 3).trans rfl⟩ (fun hHeld => ?_)
      clear hK K
      refine nA ?_
      refine pA 6 HT_ ?_
      refine oA 7 HT_ (fun K hK => ?_)
      refine value_ (w1 := ?_) (v := ?_) (by rfl) rfl ?_ ?_
      rotate_left 2
      ·go_simp
       constructor
       ·rfl
       ·rfl
      refine hK.out _ _ ⟨(blk_cell (boxc_alloc H14.out _) 0).trans rfl, (blk_cell (boxc_alloc H14.out _) 1).trans rfl, (blk_cell (boxc_alloc H14.out _) 2).trans rfl, (blk_cell (boxc_alloc H14.out _) 3).trans rfl⟩ (fun hHeld => ?_)
      clear hK K
      refine nA ?_
      refine oA 8 HT_ (fun K hK => ?_)
      refine t9_step (w0 := w) w.heap.size (by rfl) (.tmp 59) (.tmp 66) rfl (.slice Av L.length cv) L (thR a1 a2 r) [.int .u64 (dstR a1 a2 r), .int .u32 0, .int .u32 0, .int .i64 0, .slice none 0 0, .slice none 0 0, .int .u64 r.f0, .int .u32 r.f1, .int .u32 r.f2, .string r.f3, .bool true] rfl rfl rfl hQ.out hB.out hB.out.size ?aL ?_
      (case aL => have := HLQ.out; rw [← HL.out, List.length_append, List.length_map]; have := List.length_take_le j nd.f1; omega)
      intro v4 w4 hq4 hb4 hg4 hat4
      have n1_ := Aside0.mk hb4
      have n2_ := Aside0.mk (blk_grown hT.out hg4 (fun e => hNB.out _ e.symm rfl))
      have n3_ := Aside0.mk (blk_grown H14.out hg4 (q_ne9 hQ.out H14.out (by decide)))
      have n4_ := Aside0.mk (Kd.R_over' hO.out (v := .slice Av L.length cv) (fun k hk => (q_typed hQ.out k hk).2) (by decide) hg4)
      have n5_ := Aside0.mk hq4
      have n6_ := Aside0.mk (show ∀ k, v4.ownBlock = some k → k ≠ wo.heap.size from fun k hk => by rcases hat4 with h | ⟨b, h1, h2⟩; (· rw [h] at hk; exact hNB.out k hk); (· rw [h1] at hk; cases hk; have := (Array.getElem?_eq_some_iff.1 hT.out).1; omega))
      clear hB hT H14 hO hQ hNB hg4 hb4 hq4 hat4
      have hB := n1_
      have hT := n2_
      have H14 := n3_
      have hO := n4_
      have hQ := n5_
      have hNB := n6_
      clear n1_ n2_ n3_ n4_ n5_ n6_
      obtain ⟨Aw, cw, ew, hcw⟩ := q_slice hQ.out
      subst ew
      refine hK.out _ _ ⟨(blk_cell (H14.out) 0).trans rfl, (blk_cell (H14.out) 1).trans rfl, (blk_cell (H14.out) 2).trans rfl, (blk_cell (H14.out) 3).trans rfl⟩ (fun hHeld => ?_)
      clear hK K
      refine nA ?_
      refine pA 9 HT_ ?_
      refine done_ (done_of HT_.out (by kernel_rfl)) ?_
      go_wp2_with fail
      go_roundw
      case rel =>
       have e1 : (L ++ [thR a1 a2 r]).length = L.length + 1 := by simp
       exact ⟨j + 1, rfl, by omega, ⟨by rw [HGET.out, List.map_append, List.map_singleton, ← List.append_assoc, HL.out]; have h := hQ.out; rw [e1] at h ⊢; exact h⟩, ⟨by have h := hNB.out; rw [e1] at h; exact h⟩, hB, hO, hT⟩
      case measure => simp [intOf]; omega
     ·obtain rfl : j = nd.f1.length := by omega
      rw [List.take_length] at HL
      have t5 := boxc_cell hT.out 5
      go_wp2_with fail
      clear t5
      go_loopw [11, 73] (fun vq i V => ∃ (j : Nat) (tn : List Th9), i = .int .i64 (j : Int) ∧ j ≤ nd.f2.length ∧ Aside0 (KidsT a1 a2 (nd.f2.take j) tn) ∧ Aside0 (∀ t ∈ tn, MemT w t) ∧ Aside0 (QRow V w.heap.size 89 11 vq (L ++ tn).length ((L ++ tn).flatMap encT)) ∧ Aside0 (Below w.heap.size w V) ∧ Aside0 (Kd.R k37 37 V w.heap.size (fun _ => True) (.slice Ao out.length co) out)) (fun _ i _ => nd.f2.length - (intOf i).toNat)
      case atStart =>
       exact ⟨0, [], rfl, Nat.zero_le _, ⟨⟨rfl, fun t ht => by cases ht⟩⟩, ⟨fun t ht => by cases ht⟩, ⟨by simpa using hQ.out⟩, hB, hO⟩
      case round =>
       clear hQ hNB hB hO hT hj
       obtain ⟨j, tn, rfl, hj, hK, hMn, hQ, hB, hO⟩ := hrel
       obtain ⟨L2, hL2⟩ : ∃ L2, L ++ tn = L2 := ⟨_, rfl⟩
       rw [hL2] at hQ
       have HL2 := Aside0.mk hL2
       clear hL2
       obtain ⟨Av, cv, ev, hcv⟩ := q_slice hQ.out
       subst ev
       have hl2 : L2.length ≤ 1000000 := by
        have h1 := HLQ.out
        have h2 := congrArg List.length hK.out.n
        rw [List.length_map] at h2
        have h3 := List.length_take_le j nd.f2
        rw [← HL2.out, ← HL.out, List.length_append, List.length_append, List.length_map]
        omega
       have HLL2 := Aside0.mk hl2
       clear hl2
       by_cases hj2 : j < nd.f2.length
       ·obtain ⟨ad, K3, d3, K4, d4, e, r0, r1, r2, r3, r4, l3, g3, l4, g4⟩ := at_T44 HC4_.out (j : Int) (by omega) (by omega)
        cases e
        simp only [Int.toNat_natCast] at r0 r1 r2 r3 r4
        have hrn : rd_T44 nd.f2 (j : Int) = nd.f2[j] := rd_node nd.f2 j hj2
        have hget : nd.f2.take (j + 1) = nd.f2.take j ++ [rd_T44 nd.f2 (j : Int)] := by rw [hrn, List.take_succ_eq_append_getElem hj2]
        generalize rd_T44 nd.f2 (j : Int) = kd at hget r0 r1 r2 r3 r4 l3 g3 l4 g4
        clear hrn
        replace r0 := (hB.out.cell (World.block_lt_of_cell? w _ r0)).trans r0
        replace r1 := (hB.out.cell (World.block_lt_of_cell? w _ r1)).trans r1
        replace r2 := (hB.out.cell (World.block_lt_of_cell? w _ r2)).trans r2
        replace r3 := (hB.out.cell (World.block_lt_of_cell? w _ r3)).trans r3
        replace r4 := (hB.out.cell (World.block_lt_of_cell? w _ r4)).trans r4
        have HGET := Aside0.mk hget
        have HM := Aside0.mk (show MemT w (thN (dstC a1 a2 kd.f0) kd K3 d3 K4 d4) from ⟨fun _ => ⟨⟨rfl, rfl, rfl⟩, ⟨rfl, l3, g3⟩, ⟨rfl, l4, g4⟩⟩⟩)
        obtain ⟨⟨dd, de⟩, hfar⟩ := cell_Far.tot 0 kd.f0.f0 kd.f0.f1 kd.f0.f2 a1 a2
        have hdd : dstC a1 a2 kd.f0 = dd := by unfold dstC; rw [hfar]
        have HDD := Aside0.mk hdd
        have HFAR := Aside0.mk hfar
        clear hget hfar hdd l3 g3 l4 g4
        go_wp2_with fail
        refine (cell_Far.calls 1 kd.f0.f0 kd.f0.f1 kd.f0.f2 a1 a2 dd de _ HFAR.out).mono ?_
        rintro e w3 ⟨rfl, hb3⟩
        have n1_ := Aside0.mk (below_call (below_alloc' hB.out (.cells #[.int .u32 kd.f0.f0, .int .u32 kd.f0.f1, .int .i64 kd.f0.f2, .slice K3 kd.f1.length d3, .slice K4 kd.f2.length d4] 44)) hb3)
        have n2_ := Aside0.mk (boxc_below (boxc_new wr #[.int .u32 kd.f0.f0, .int .u32 kd.f0.f1, .int .i64 kd.f0.f2, .slice K3 kd.f1.length d3, .slice K4 kd.f2.length d4] 44) hb3)
        have n4_ := Aside0.mk (Kd.R_below (Kd.R_alloc hO.out (.cells #[.int .u32 kd.f0.f0, .int .u32 kd.f0.f1, .int .i64 kd.f0.f2, .slice K3 kd.f1.length d3, .slice K4 kd.f2.length d4] 44)) hb3)
        have n5_ := Aside0.mk (q_below9 (q_below9 hQ.out (below_alloc' (Below.refl _ wr) (.cells #[.int .u32 kd.f0.f0, .int .u32 kd.f0.f1, .int .i64 kd.f0.f2, .slice K3 kd.f1.length d3, .slice K4 kd.f2.length d4] 44))) hb3)
        clear hB hO hQ hb3 r0 r1 r2 r3 r4
        have hB := n1_
        have H16 := n2_
        have hO := n4_
        have hQ := n5_
        clear n1_ n2_ n4_ n5_
        have c0 := boxc_cell H16.out 0
        have c1 := boxc_cell H16.out 1
        have c2_ := boxc_cell H16.out 2
        have c3 := boxc_cell H16.out 3
        have c4 := boxc_cell H16.out 4
        go_wp2_with ((with_reducible refine gate_builtin (b := .append) (xs := #[.tmp 85, .tmp 89]) rfl ?_); at_builtin; refine t9_append (w0 := w) w.heap.size rfl (.tmp 85) (.tmp 89) rfl (.slice Av L2.length cv) L2 (thN dd kd K3 d3 K4 d4) [.int .u64 dd, .int .u32 kd.f0.f0, .int .u32 kd.f0.f1, .int .i64 kd.f0.f2, .slice K3 kd.f1.length d3, .slice K4 kd.f2.length d4, .int .u64 0, .int .u32 0, .int .u32 0, .string ⟨#[]⟩, .bool false] rfl rfl rfl hQ.out hB.out hB.out.size HLL2.out ?_; intro v4 w4 hq4 hb4 hg4 hat4; have n1_ := Aside0.mk hb4; have n4_ := Aside0.mk (Kd.R_over' hO.out (v := .slice Av L2.length cv) (fun k hk => (q_typed hQ.out k hk).2) (by decide) hg4); have n5_ := Aside0.mk hq4; clear hg4 hb4 hq4 hat4)
        clear c0 c1 c2_ c3 c4 hB hO hQ
        have hB := n1_
        have hO := n4_
        have hQ := n5_
        clear n1_ n4_ n5_
        obtain ⟨Aw, cw, ew, hcw⟩ := q_slice hQ.out
        subst ew
        go_wp2_with fail
        go_roundw
        case rel =>
         have e1 : (L2 ++ [thN dd kd K3 d3 K4 d4]).length = L2.length + 1 := by simp
         refine ⟨j + 1, tn ++ [thN dd kd K3 d3 K4 d4], rfl, by omega, ⟨?_⟩, ⟨?_⟩, ⟨?_⟩, hB, hO⟩
         ·rw [HGET.out]
          refine ⟨by rw [List.map_append, hK.out.n]; rfl, fun t ht => ?_⟩
          rcases List.mem_append.1 ht with h | h
          ·exact hK.out.t t h
          ·obtain rfl := List.mem_singleton.1 h
           exact ⟨rfl, HDD.out.symm⟩
         ·intro t ht
          rcases List.mem_append.1 ht with h | h
          ·exact hMn.out t h
          ·obtain rfl := List.mem_singleton.1 h
           have := HM.out
           rw [HDD.out] at this
           exact this
         ·rw [← List.append_assoc, HL2.out]
          have h := hQ.out
          rw [e1] at h ⊢
          exact h
        case measure => simp [intOf]; omega
       ·obtain rfl : j = nd.f2.length := by omega
        rw [List.take_length] at hK
        go_wp2_with fail
        refine (sortThings_calls _ w.heap.size (.slice Av L2.length cv) L2 hQ.out (by have := HLL2.out; omega)).mono ?_
        rintro e w3 ⟨rfl, l', hperm, hsort, hq3, hg3⟩
        have HPM := Aside0.mk hperm
        have HST := Aside0.mk hsort
        have n1_ := Aside0.mk (hB.out.grown hg3 hB.out.size (fun k hk => (q_typed hQ.out k hk).1))
        have n4_ := Aside0.mk (Kd.R_over' hO.out (v := .slice Av L2.length cv) (fun k hk => (q_typed hQ.out k hk).2) (by decide) hg3)
        have n5_ := Aside0.mk (show QRow w3 w.heap.size 89 11 (.slice Av L2.length cv) l'.length (l'.flatMap encT) by rw [hperm.length_eq]; exact hq3)
        clear hB hO hQ hperm hsort hq3 hg3
        go_wp2_with fail
        have hw2 : wQ l' = wQ q' + (nd.f1.length + wL nd.f2) := by
         rw [wQ_perm HPM.out, ← HL2.out, ← HL.out, wQ_append, wQ_append, thR_wQ, hK.out.wQ]
         omega
        go_roundg (wQ l')
        case rel =>
         refine ⟨out, l', ⟨hI.out.open_ rfl (q2 := nd.f1.map (thR a1 a2) ++ tn) ?_ ?_ ?_ (HST.out.imp (fun h => by omega))⟩, ⟨?_⟩, ⟨Nat.le_refl _, by have := HWQ.out; have := hq.out; omega⟩, ho, n4_, n5_, n1_⟩
         ·rw [List.flatMap_append, thR_rows, hK.out.rows]
         ·intro t ht
          rcases List.mem_append.1 ht with h | h
          ·exact thR_ok a1 a2 nd.f1 t h
          ·exact hK.out.ok ((hI.out.ok _ List.mem_cons_self).node rfl).2 t h
         ·rw [← List.append_assoc, HL.out, HL2.out]
          exact HPM.out
         ·intro t ht
          have hm := HPM.out.mem_iff.1 ht
          rw [← HL2.out, ← HL.out] at hm
          rcases List.mem_append.1 hm with h | h
          ·rcases List.mem_append.1 h with h | h
           ·exact hM.out t (List.mem_cons_of_mem _ h)
           ·obtain ⟨r, _, rfl⟩ := List.mem_map.1 h
            exact ⟨fun e => by cases e⟩
          ·exact hMn.out t h
        case measure => have := HWQ.out; omega
end Go.Proofs.YtoimgijhekahhaaGreat.P
namespace Go.Proofs.YtoimgijhekahhaaGreat.P
open Go.RowKit Go.Proofs.YtoimgijhekahhaaGreatOwn Go.Proofs.YtoimgijhekahhaaGreatW.PrintWords Go.Proofs.YtoimgijhekahhaaGreatW.PrintLast Go.Proofs.YtoimgijhekahhaaGreatW.PrintMore
set_option linter.unusedVariables false
set_option linter.unusedSimpArgs false
attribute [local go_sem] max2_int min2_int max_two min_two
mutual
def goodNB (x y : Int) : S44 → Bool
 | ⟨c, rs, ks⟩ => ((rs ++ rowsL (fun _ => false) ks).all fun r => decide (dstC x y c ≤ dstR x y r)) && goodLB x y ks
def goodLB (x y : Int) : List S44 → Bool
 | [] => true
 | n :: l => goodNB x y n && goodLB x y l
end
mutual
theorem goodNB_iff (x y : Int) : ∀ (n : S44), goodNB x y n = true ↔ goodN x y n
 | ⟨c, rs, ks⟩ => by
  rw [goodNB, goodN, Bool.and_eq_true, goodLB_iff x y ks, List.all_eq_true]
  simp only [decide_eq_true_eq]
theorem goodLB_iff (x y : Int) : ∀ (l : List S44), goodLB x y l = true ↔ goodL x y l
 | [] => by simp [goodLB, goodL]
 | n :: l => by rw [goodLB, goodL, Bool.and_eq_true, goodNB_iff x y n, goodLB_iff x y l]
end
instance (x y : Int) (a b : S37) : Decidable (keyLt x y a b) := by unfold keyLt; infer_instance
def sortK (x y : Int) (l : List S37) : List S37 := l.mergeSort fun a b => decide (dstR x y a < dstR x y b ∨ (dstR x y a = dstR x y b ∧ a.f0 ≤ b.f0))
def okNear (x y : Int) (n : S44) : Bool := goodLB x y n.f2 && ((n.f1 ++ rowsL (fun _ => false) n.f2).all fun r => decide (0 ≤ dstR x y r)) && decide (wN n ≤ 100000) && decide ((sortK x y (rowsL (fun _ => false) [n])).Pairwise (keyLt x y))
def quad_Near.f (k : Nat) (a0_0 a0_1 a0_2 : Int) (l0_3 : List S37) (l0_4 : List S44) (a1 a2 a3 : Int) : Option (List S37 × Int) :=
 if mx a1 a2 ≥ 2147483648 ∨ a3 < 0 then some ([], 2) else if okNear a1 a2 ⟨⟨a0_0, a0_1, a0_2⟩, l0_3, l0_4⟩ = true then some ((sortK a1 a2 (rowsL (fun _ => false) [⟨⟨a0_0, a0_1, a0_2⟩, l0_3, l0_4⟩])).take a3.toNat, 0) else none
theorem quad_Near.mono : ∀ a0 a1 a2 a3 a4 b0 b1 b2 k, LeO (quad_Near.f k a0 a1 a2 a3 a4 b0 b1 b2) (quad_Near.f (k + 1) a0 a1 a2 a3 a4 b0 b1 b2) := fun _ _ _ _ _ _ _ _ _ => LeO.refl _
set_option maxRecDepth 100000 in
set_option maxHeartbeats 4000000 in
theorem near_bad (a0_0 a0_1 a0_2 : Int) (A0_3 : Option Addr) (c0_3 n3 : Nat) (A0_4 : Option Addr) (c0_4 n4 : Nat) (a1 a2 a3 : Int) (w : World) (h : mx a1 a2 ≥ 2147483648 ∨ a3 < 0) :
  Calls Tryz.prog 36 #[.agg #[.int .u32 a0_0, .int .u32 a0_1, .int .i64 a0_2, .slice A0_3 n3 c0_3, .slice A0_4 n4 c0_4], .int .u32 a1, .int .u32 a2, .int .i64 a3] w fun e w' => ∃ v0_ : Value, e = .returned (.tuple #[v0_, .int .i64 2]) ∧ Kd.R k37 37 w' w.heap.size (fun _ => True) v0_ [] ∧ Below w.heap.size w w' := by
 obtain ⟨m, hm⟩ : ∃ m, (if a1 < a2 then a2 else a1) = m := ⟨_, rfl⟩
 have hmx : mx a1 a2 = m := hm
 rw [hmx] at h
 by_cases h1 : 2147483648 ≤ m
 ·have hmb : decide (2147483648 ≤ m) = true := decide_eq_true h1
  clear h hmx h1
  go_enter Tryz.func36, Tryz.ntmps36
  go_wp2_with fail
  refine wp_scope_straight ?_
  go_wp2_with fail
  try simp only [Exit.noGoto_ret]
  refine bodyPost_ret (v := .tuple #[.slice none 0 0, .int .i64 2]) (by simp [results, Tryz.results36, go_sem]) rfl ?_
  exact ⟨_, rfl, Kd.R_nil _ _ _ _ _, below_alloc' (Below.refl _ w) _⟩
 ·have hmb : decide (2147483648 ≤ m) = false := decide_eq_false h1
  have h3b : decide (a3 < 0) = true := decide_eq_true (by omega)
  clear h hmx h1
  go_enter Tryz.func36, Tryz.ntmps36
  go_wp2_with fail
  refine wp_scope_straight ?_
  go_wp2_with fail
  try simp only [Exit.noGoto_ret]
  refine bodyPost_ret (v := .tuple #[.slice none 0 0, .int .i64 2]) (by simp [results, Tryz.results36, go_sem]) rfl ?_
  exact ⟨_, rfl, Kd.R_nil _ _ _ _ _, below_alloc' (Below.refl _ w) _⟩
theorem quad_Near.calls (k : Nat) (a0_0 a0_1 a0_2 : Int) (A0_3 : Option Addr) (c0_3 : Nat) (l0_3 : List S37) (A0_4 : Option Addr) (c0_4 : Nat) (l0_4 : List S44) (a1 a2 a3 : Int) (r1 : List S37) (r2 : Int) (w : World) (hr0_3 : Kd.C k37 w A0_3 l0_3.length l0_3) (hc0_3 : l0_3.length ≤ c0_3) (hr0_4 : Kd.C k44 w A0_4 l0_4.length l0_4) (hc0_4 : l0_4.length ≤ c0_4)
  (h : quad_Near.f k a0_0 a0_1 a0_2 l0_3 l0_4 a1 a2 a3 = some (r1, r2)) :
  Calls Tryz.prog 36 #[.agg #[.int .u32 a0_0, .int .u32 a0_1, .int .i64 a0_2, .slice A0_3 l0_3.length c0_3, .slice A0_4 l0_4.length c0_4], .int .u32 a1, .int .u32 a2, .int .i64 a3] w fun e w' => ∃ v0_ : Value, e = .returned (.tuple #[v0_, .int .i64 r2]) ∧ Kd.R k37 37 w' w.heap.size (fun _ => True) v0_ r1 ∧ Below w.heap.size w w' := by
 unfold quad_Near.f at h
 by_cases hb : mx a1 a2 ≥ 2147483648 ∨ a3 < 0
 ·rw [if_pos hb] at h
  cases h
  exact near_bad a0_0 a0_1 a0_2 A0_3 c0_3 _ A0_4 c0_4 _ a1 a2 a3 w hb
 ·rw [if_neg hb] at h
  by_cases ho : okNear a1 a2 ⟨⟨a0_0, a0_1, a0_2⟩, l0_3, l0_4⟩ = true
  ·rw [if_pos ho] at h
   cases h
   unfold okNear at ho
   rw [Bool.and_eq_true, Bool.and_eq_true, Bool.and_eq_true] at ho
   obtain ⟨⟨⟨h1, h2⟩, h3⟩, h4⟩ := ho
   have hm1 : a1 < 2147483648 ∧ a2 < 2147483648 := by
    have : ¬ mx a1 a2 ≥ 2147483648 := fun e => hb (.inl e)
    unfold mx at this
    split at this <;> omega
   exact near_go a0_0 a0_1 a0_2 A0_3 c0_3 l0_3 A0_4 c0_4 l0_4 a1 a2 a3 w hr0_3 hc0_3 hr0_4 hc0_4 hm1.1 hm1.2 (by omega) _ (of_decide_eq_true h4) (List.mergeSort_perm _ _).symm ((goodLB_iff a1 a2 _).1 h1) (fun r hr => of_decide_eq_true (List.all_eq_true.1 h2 r hr)) (of_decide_eq_true h3)
  ·rw [if_neg ho] at h; cases h
end Go.Proofs.YtoimgijhekahhaaGreat.P

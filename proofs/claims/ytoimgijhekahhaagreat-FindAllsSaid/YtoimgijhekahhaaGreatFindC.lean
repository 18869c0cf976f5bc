/- Layer 11, find: rows taken out of a row of one's own (slices.IndexFunc, slices.DeleteFunc at find.ask$1): walked. -/
import Derived.MapKept
import Derived.Carry
import Derived.Test.YtoimgijhekahhaaGreatPx6
import Derived.Test.YtoimgijhekahhaaGreatPx801
import Derived.Test.YtoimgijhekahhaaGreatPx901
import Derived.Test.YtoimgijhekahhaaGreatPx902
namespace Go.Proofs.YtoimgijhekahhaaGreat.P
open Go.RowKit Go.Proofs.YtoimgijhekahhaaGreatOwn Go.Proofs.YtoimgijhekahhaaGreatW.PrintWords Go.Proofs.YtoimgijhekahhaaGreatW.PrintLast Go.Proofs.YtoimgijhekahhaaGreatW.PrintMore
set_option linter.unusedVariables false
set_option linter.unusedSimpArgs false
structure Q11 where
 kind : Int
 b0 : Int
 b1 : Int
 b2 : Int
 b3 : Int
 x : Int
 y : Int
 sq : Int
 k : Int
 after : Int
 from_ : Bool
def encQ (q : Q11) : Array Value := #[.int .i64 q.kind, .int .u32 q.b0, .int .u32 q.b1, .int .u32 q.b2, .int .u32 q.b3, .int .u32 q.x, .int .u32 q.y, .int .u64 q.sq, .int .i64 q.k, .int .u64 q.after, .bool q.from_]
def goneB (after : Int) (r : S37) : Bool := decide (r.f0 ≤ after)
set_option maxRecDepth 100000 in
set_option maxHeartbeats 4000000 in
theorem ask1_calls (q : Q11) (b : Nat) (x : S37) (W : World) (hb : W.heap[b]? = some (.cells (encQ q) 28 (0, 0))) :
  Calls Tryz.prog 22 #[.agg #[.int .u64 x.f0, .int .u32 x.f1, .int .u32 x.f2, .string x.f3], .pointer (some ⟨b, 0, none⟩)] W fun e w' => e = .returned (.bool (goneB q.after x)) ∧ Below W.heap.size W w' := by
 have c9 := boxc_cell (boxc_alloc hb (.cells #[.int .u64 x.f0, .int .u32 x.f1, .int .u32 x.f2, .string x.f3] 37)) 9
 unfold goneB
 unfold encQ at c9
 clear hb
 go_enter Tryz.func22, Tryz.ntmps22
 go_wp2
 go_ret
 exact ⟨rfl, below_alloc' (Below.refl _ W) _⟩
set_option maxRecDepth 100000 in
set_option maxHeartbeats 4000000 in
theorem index_calls (q : Q11) (b : Nat) (A : Option Addr) (c : Nat) (l : List S37) (w : World) (hC : Kd.C k37 w A l.length l) (hc : l.length ≤ c) (hb : w.heap[b]? = some (.cells (encQ q) 28 (0, 0))) :
  Calls Tryz.prog 39 #[.slice A l.length c, .func (.func 22) #[] #[.pointer (some ⟨b, 0, none⟩)]] w fun e w' => e = .returned (.int .i64 (match l.findIdx? (goneB q.after) with | some i => (i : Int) | none => -1)) ∧ Below w.heap.size w w' := by
 have HC := Aside0.mk hC
 have HB := Aside0.mk hb
 have HMX := Aside0.mk hC.2.1
 obtain ⟨res, hres⟩ : ∃ res, (match l.findIdx? (goneB q.after) with | some i => (i : Int) | none => -1) = res := ⟨_, rfl⟩
 rw [hres]
 have HRES := Aside0.mk hres
 clear hC hb hres
 go_enter Tryz.func39, Tryz.ntmps39
 go_wp2_with fail
 go_loopw [8] (fun i V => ∃ j : Nat, i = .int .i64 (j : Int) ∧ j ≤ l.length ∧ Aside0 (∀ (t : Nat) (r : S37), t < j → l[t]? = some r → goneB q.after r = false) ∧ Aside0 (Below w.heap.size w V)) (fun i _ => l.length - (intOf i).toNat)
 case atStart => exact ⟨0, rfl, Nat.zero_le _, ⟨fun t _ h => absurd h (Nat.not_lt_zero _)⟩, ⟨Below.refl _ _⟩⟩
 case round =>
  obtain ⟨j, rfl, hj, hno, hB⟩ := hrel
  have hmx := HMX.out
  by_cases hj2 : j < l.length
  ·obtain ⟨ad, e, r0, r1, r2, r3⟩ := at_T37 HC.out (j : Int) (by omega) (by omega)
   cases e
   simp only [Int.toNat_natCast] at r0 r1 r2 r3
   have hrn : rd_T37 l (j : Int) = l[j] := by unfold rd_T37; simp [List.getD, hj2]
   have hget : l[j]? = some (rd_T37 l (j : Int)) := by rw [hrn]; exact List.getElem?_eq_getElem hj2
   generalize rd_T37 l (j : Int) = r at hget r0 r1 r2 r3
   clear hrn
   replace r0 := (hB.out.cell (World.block_lt_of_cell? w _ r0)).trans r0
   replace r1 := (hB.out.cell (World.block_lt_of_cell? w _ r1)).trans r1
   replace r2 := (hB.out.cell (World.block_lt_of_cell? w _ r2)).trans r2
   replace r3 := (hB.out.cell (World.block_lt_of_cell? w _ r3)).trans r3
   have HGET := Aside0.mk hget
   clear hget
   go_wp2_with fail
   refine (ask1_calls q b r _ (boxc_below HB.out hB.out)).mono ?_
   rintro e w3 ⟨rfl, hb3⟩
   have n1_ := Aside0.mk (below_call hB.out hb3)
   clear hB hb3 r0 r1 r2 r3
   have hB := n1_
   clear n1_
   cases hg : goneB q.after r with
   | true =>
    have HG := Aside0.mk hg
    clear hg
    go_wp2
    go_ret
    refine ⟨?_, hB.out⟩
    rw [← HRES.out]
    have hfi : l.findIdx? (goneB q.after) = some j := by
     rw [List.findIdx?_eq_some_iff_getElem]
     refine ⟨hj2, ?_, fun t ht => ?_⟩
     ·have := (List.getElem?_eq_some_iff.1 HGET.out).2
      rw [this]
      exact HG.out
     ·have := hno.out t l[t] ht (List.getElem?_eq_getElem (by omega))
      rw [this]; simp
    rw [hfi]
    rfl
   | false =>
    have HG := Aside0.mk hg
    clear hg
    go_wp2_with fail
    go_roundw
    case rel =>
     refine ⟨j + 1, by go_num, by omega, ⟨fun t r' ht hr' => ?_⟩, hB⟩
     rcases Nat.lt_or_ge t j with h | h
     ·exact hno.out t r' h hr'
     ·obtain rfl : t = j := by omega
      rw [HGET.out] at hr'
      cases hr'
      exact HG.out
    case measure => simp [intOf]; omega
  ·obtain rfl : j = l.length := by omega
   go_wp2
   go_ret
   refine ⟨?_, hB.out⟩
   rw [← HRES.out]
   have hfi : l.findIdx? (goneB q.after) = none := by
    rw [List.findIdx?_eq_none_iff]
    intro x hx
    obtain ⟨t, ht⟩ := List.getElem?_of_mem hx
    rw [hno.out t x (List.getElem?_eq_some_iff.1 ht).1 ht]
   rw [hfi]
   rfl
end Go.Proofs.YtoimgijhekahhaaGreat.P
namespace Go.Proofs.YtoimgijhekahhaaGreat.P
open Go.RowKit Go.Proofs.YtoimgijhekahhaaGreatOwn Go.Proofs.YtoimgijhekahhaaGreatW.PrintWords Go.Proofs.YtoimgijhekahhaaGreatW.PrintLast Go.Proofs.YtoimgijhekahhaaGreatW.PrintMore
set_option linter.unusedVariables false
set_option linter.unusedSimpArgs false
theorem R_tail {W : World} {base g n c o : Nat} {l : List S37} {zs : List Value} (h : Kd.R k37 37 W base (fun _ => True) (.slice (some ⟨g, 0, none⟩) n c) l) (ho : n * 4 ≤ o) (hz : o + zs.length ≤ c * 4) :
  Kd.R k37 37 (W.setCells g o zs) base (fun _ => True) (.slice (some ⟨g, 0, none⟩) n c) l := by
 have hn := (Kd.R_reads' h).1
 obtain ⟨h0, inner, hown, hr⟩ := h
 rcases hown.2 with ⟨hv, _⟩ | ⟨g', cap', cur, hv, hb, hh, hnc, hcm, hcs, ht⟩
 ·cases hv
 injection hv with ha _ hc
 injection ha with ha
 injection ha with hg'
 subst hg'; subst hc
 obtain ⟨cur', h3, h4, h5⟩ := setCells_row zs o W cur hh (by rw [hcs]; exact hz)
 refine ⟨fun _ _ => trivial, inner, ⟨hown.1, .inr ⟨g, c, cur', by rw [hn], hb, h3, by omega, hcm, by rw [h4]; exact hcs, ?_⟩⟩, hr.imp_ (fun x cs hx => ?_)⟩
 ·have hlc : cur.toList.length = c * 4 := by rw [Array.length_toList]; exact hcs
  rw [h5, List.append_assoc, List.take_append_of_le_length (by rw [List.length_take, hlc]; show l.length * 4 ≤ _; omega), List.take_take, Nat.min_eq_left (by show l.length * 4 ≤ o; omega)]
  exact ht
 ·obtain rfl := k37_openM hx
  exact k37_mkM _ _ _ x
theorem setCells_grown (W : World) (g o : Nat) (zs : List Value) : W.grownBy (W.setCells g o zs) (some g) := by
 obtain ⟨s1, s2, s3, s4⟩ := setCells_same g zs o W
 exact ⟨s1, s2, s3, by rw [s4]; exact Nat.le_refl _, fun k _ hk => setCells_far zs o k (fun he => hk (by rw [he]))⟩
theorem clear_run (W : World) (ty : TypeId) {base g i n c : Nat} {l : List S37} (h : Kd.R k37 37 W base (fun _ => True) (.slice (some ⟨g, 0, none⟩) n c) l) (hi : i < n) (c2 : Nat) :
  ∃ zs : List Value, zs.length = (n - i) * 4 ∧ (Builtin.clear_ #[22] ty #[.slice (some ⟨g, i * 4, none⟩) (n - i) c2]).run Tryz.prog W = .ok (.tuple #[]) (W.setCells g (i * 4) zs) := by
 have hn := (Kd.R_reads' h).1
 have hnc := (Kd.R_reads' h).2.1
 obtain ⟨h0, inner, hown, hr⟩ := h
 rcases hown.2 with ⟨hv, _⟩ | ⟨g', cap', cur, hv, hb, hh, _, hcm, hcs, ht⟩
 ·cases hv
 injection hv with ha _ hc
 injection ha with ha
 injection ha with hg'
 subst hg'; subst hc
 obtain ⟨m, hm⟩ : ∃ m, n - i = m + 1 := ⟨n - i - 1, by omega⟩
 have hcs' : cur.size = c * 4 := hcs
 have hze : ∀ w, (zeroValue 37).run Tryz.prog w = .ok (.agg #[.int .u64 0, .int .u32 0, .int .u32 0, .string ⟨#[]⟩]) w := fun w => by kernel_rfl
 have hzl : (Builtin.zeroCells #[.int .u64 0, .int .u32 0, .int .u32 0, .string ⟨#[]⟩] (n - i)).toList.length = (n - i) * 4 := by rw [Array.length_toList, size_zeroCells]; rfl
 refine ⟨(Builtin.zeroCells #[.int .u64 0, .int .u32 0, .int .u32 0, .string ⟨#[]⟩] (n - i)).toList, hzl, ?_⟩
 have hcell : ∀ j : Nat, j < (Builtin.zeroCells #[.int .u64 0, .int .u32 0, .int .u32 0, .string ⟨#[]⟩] (n - i)).toList.length → (W.cell? ⟨g, i * 4 + 0 + j, none⟩).isSome = true := fun j hj => by
  rw [hzl] at hj
  have hlt : i * 4 + 0 + j < cur.size := by omega
  rw [cell_of_row W g _ cur _ (0, 0) hh, Array.getElem?_eq_getElem hlt]
  rfl
 have hst := run_storeCells_cells (P := Tryz.prog) g (i * 4) (Builtin.zeroCells #[.int .u64 0, .int .u32 0, .int .u32 0, .string ⟨#[]⟩] (n - i)).toList 0 W hcell (fun j _ => blk_frozen hh _) (fun v hv => by
  obtain ⟨j, hj, rfl⟩ := List.getElem_of_mem hv
  rw [Array.getElem_toList]
  simp only [Builtin.zeroCells, Array.getElem_map, Array.getElem_range]
  have h4 : j % 4 < 4 := Nat.mod_lt _ (by decide)
  show ((#[.int .u64 0, .int .u32 0, .int .u32 0, .string ⟨#[]⟩] : Array Value)[j % 4]!).oneCell' = true
  generalize j % 4 = t at h4
  have : t = 0 ∨ t = 1 ∨ t = 2 ∨ t = 3 := by omega
  rcases this with rfl | rfl | rfl | rfl <;> rfl)
 simp only [Nat.add_zero] at hst
 rw [hm] at hst ⊢
 have hzc : (Value.agg #[.int .u64 0, .int .u32 0, .int .u32 0, .string ⟨#[]⟩]).cells = #[.int .u64 0, .int .u32 0, .int .u32 0, .string ⟨#[]⟩] := rfl
 simp [Builtin.clear_, run_underlying Tryz.underlying22, hze, hzc, hst]
set_option maxRecDepth 100000 in
set_option maxHeartbeats 4000000 in
theorem delete_calls (q : Q11) (b base : Nat) (v : Value) (l : List S37) (w : World) (hR : Kd.R k37 37 w base (fun _ => True) v l) (hb : w.heap[b]? = some (.cells (encQ q) 28 (0, 0))) (hbase : base ≤ w.heap.size) :
  Calls Tryz.prog 21 #[v, .func (.func 22) #[] #[.pointer (some ⟨b, 0, none⟩)]] w fun e w' => ∃ v', e = .returned v' ∧ Kd.R k37 37 w' base (fun _ => True) v' (l.filter fun r => !goneB q.after r) ∧ w.grownBy w' v.ownBlock := by
 obtain ⟨A, c, hv, hc, hC⟩ := Kd.R_reads hR
 subst hv
 have HR := Aside0.mk hR
 have HC := Aside0.mk hC
 have HB := Aside0.mk hb
 have HMX := Aside0.mk hC.2.1
 have HBS := Aside0.mk hbase
 clear hR hb hbase
 cases hf : l.findIdx? (goneB q.after) with
 | none =>
  have hres : Aside0 (l.filter (fun r => !goneB q.after r) = l) := ⟨List.filter_eq_self.2 (fun r hr => by rw [List.findIdx?_eq_none_iff.1 hf r hr]; rfl)⟩
  have HF := Aside0.mk hf
  clear hf
  go_enter Tryz.func21, Tryz.ntmps21
  go_wp2_with fail
  refine (index_calls q b A c l _ HC.out hc HB.out).mono ?_
  rintro e w1 ⟨rfl, hb1⟩
  rw [HF.out]
  dsimp only
  have HB1 := Aside0.mk hb1
  clear hb1
  go_wp2
  go_ret
  exact ⟨_, rfl, by rw [hres.out]; exact Kd.R_below HR.out HB1.out, grown_of_below HB1.out _⟩
 | some i0 =>
  obtain ⟨hi0, hgi, hno⟩ := List.findIdx?_eq_some_iff_getElem.1 hf
  obtain ⟨g, cap, hvg, hbg, hgl, cells, hcl⟩ := Kd.R_form HR.out (by omega)
  injection hvg with hA _ hcc
  subst hA hcc
  have HGL := Aside0.mk hgl
  have HGB := Aside0.mk (show some b ≠ (some g : Option Nat) from fun e => by cases e; have := HB.out; rw [hcl] at this; cases this)
  have HK0 : Aside0 (l.take i0 = (l.take (i0 + 1)).filter fun r => !goneB q.after r) := ⟨by
   rw [List.take_succ_eq_append_getElem hi0, List.filter_append, List.filter_eq_self.2 (fun r hr => ?_)]
   ·simp [hgi]
   ·obtain ⟨t, ht, rfl⟩ := List.getElem_of_mem hr
    rw [List.length_take] at ht
    have := hno t (by omega)
    rw [List.getElem_take]
    simpa using this⟩
  have HF := Aside0.mk hf
  clear hf hgi hno hcl hgl hbg
  go_enter Tryz.func21, Tryz.ntmps21
  go_wp2_with fail
  refine (index_calls q b _ c l _ HC.out hc HB.out).mono ?_
  rintro e w1 ⟨rfl, hb1⟩
  rw [HF.out]
  dsimp only
  have HB1 := Aside0.mk hb1
  have hm1 : ((i0 : Int) == -1) = false := beq_eq_false_iff_ne.2 (by omega)
  have hmx := HMX.out
  clear hb1
  go_wp2_with fail
  go_loopw [5, 6] (fun iv jv V => ∃ (i j : Nat) (cur : List S37), iv = .int .i64 (i : Int) ∧ jv = .int .i64 (j : Int) ∧ i < j ∧ j ≤ l.length ∧ Aside0 (cur.length = l.length) ∧ Aside0 (cur.take i = (l.take j).filter fun r => !goneB q.after r) ∧ Aside0 (cur.drop j = l.drop j) ∧ Aside0 (Kd.R k37 37 V base (fun _ => True) (.slice (some ⟨g, 0, none⟩) l.length c) cur) ∧ Aside0 (w.grownBy V (some g))) (fun _ j _ => l.length - (intOf j).toNat)
  case atStart => exact ⟨i0, i0 + 1, l, rfl, by go_num, by omega, by omega, ⟨rfl⟩, HK0, ⟨rfl⟩, ⟨Kd.R_below HR.out HB1.out⟩, ⟨grown_of_below HB1.out _⟩⟩
  case round =>
   obtain ⟨i, j, cur, rfl, rfl, hij, hj, hcl, hck, hcd, hO, hG⟩ := hrel
   by_cases hj2 : j < l.length
   ·have hC2 := (Kd.R_reads' hO.out).2.2
    obtain ⟨ad, e, r0, r1, r2, r3⟩ := at_T37 hC2 (j : Int) (by omega) (by rw [hcl.out]; omega)
    cases e
    simp only [Int.toNat_natCast, add_plain] at r0 r1 r2 r3
    have hrn : rd_T37 cur (j : Int) = l[j] := by
     have h1 : cur[j]? = l[j]? := by
      have := congrArg (fun x => x[0]?) hcd.out
      simpa [List.getElem?_drop] using this
     unfold rd_T37
     rw [Int.toNat_natCast, List.getD_eq_getElem?_getD, h1]
     simp [hj2]
    rw [hrn] at r0 r1 r2 r3
    have hget : l.take (j + 1) = l.take j ++ [l[j]] := List.take_succ_eq_append_getElem hj2
    have hdr : Aside0 (cur.drop (j + 1) = l.drop (j + 1)) := ⟨by have := congrArg (fun x => x.drop 1) hcd.out; simpa [List.drop_drop, Nat.add_comm] using this⟩
    generalize l[j] = r at hget r0 r1 r2 r3
    have HGET := Aside0.mk hget
    clear hrn hC2 hget
    go_wp2_with fail
    refine (ask1_calls q b r _ (boxc_alloc ((hG.out.block b (boxc_lt HB.out) HGB.out).trans HB.out) _)).mono ?_
    rintro e w3 ⟨rfl, hb3⟩
    have HB3 := Aside0.mk (boxc_below (boxc_new wr #[.int .u64 r.f0, .int .u32 r.f1, .int .u32 r.f2, .string r.f3] 37) hb3)
    have n1_ := Aside0.mk (Kd.R_below (Kd.R_alloc hO.out (.cells #[.int .u64 r.f0, .int .u32 r.f1, .int .u32 r.f2, .string r.f3] 37)) hb3)
    have n2_ := Aside0.mk ((hG.out.trans (World.grownBy_alloc wr (.cells #[.int .u64 r.f0, .int .u32 r.f1, .int .u32 r.f2, .string r.f3] 37) _)).trans (grown_of_below hb3 _))
    have HNB := Aside0.mk (show wr.heap.size ≠ g from fun e => by have := hG.out.size; have := HGL.out; omega)
    clear hO hG hb3 r0 r1 r2 r3
    have hO := n1_
    have hG := n2_
    clear n1_ n2_
    cases hg : goneB q.after r with
    | true =>
     have hk : Aside0 (cur.take i = (l.take (j + 1)).filter fun r => !goneB q.after r) := ⟨by rw [hck.out, HGET.out, List.filter_append]; simp [hg]⟩
     clear hg
     go_wp2_with fail
     go_roundw
     case rel => exact ⟨i, j + 1, cur, rfl, by go_num, by omega, by omega, hcl, hk, hdr, hO, hG⟩
     case measure => simp [intOf]; omega
    | false =>
     have hk : Aside0 ((cur.set i r).take (i + 1) = (l.take (j + 1)).filter fun r => !goneB q.after r) := ⟨by
      have hi : i < (cur.set i r).length := by rw [List.length_set, hcl.out]; omega
      rw [List.take_succ_eq_append_getElem hi, List.getElem_set_self, List.take_set_of_le (Nat.le_refl i), hck.out, HGET.out, List.filter_append]
      simp [hg]⟩
     have hd : Aside0 ((cur.set i r).drop (j + 1) = l.drop (j + 1)) := ⟨by rw [List.drop_set_of_lt (by omega)]; exact hdr.out⟩
     clear hg
     obtain ⟨ci, hci, _, hcc, _⟩ := Kd.R_elem hO.out z37 (i : Int) (by omega) (by omega)
     have HCI := Aside0.mk hci
     have HCC := Aside0.mk hcc
     have x0 := boxc_cell HB3.out 0
     have x1 := boxc_cell HB3.out 1
     have x2 := boxc_cell HB3.out 2
     have x3 := boxc_cell HB3.out 3
     clear hci hcc
     go_wp2_with ((with_reducible refine gate_ (.store 37 (.tmp 33) (.tmp 32)) rfl ?_); refine Kd.R_store k37 (w0 := w3) base rfl rfl 37 (.tmp 33) (.tmp 32) rfl 37 (g := g) (n := l.length) (cap := c) (o' := i * 4) (i : Int) 0 cur r (.agg #[.int .u64 r.f0, .int .u32 r.f1, .int .u32 r.f2, .string r.f3]) [.int .u64 r.f0, .int .u32 r.f1, .int .u32 r.f2, .string r.f3] ci (fun _ => True) (fun _ => False) rfl (by rw [Int.toNat_natCast]; rfl) rfl rfl rfl (by intro u hu; simp at hu; rcases hu with rfl | rfl | rfl | rfl <;> rfl) ?aO (by omega) (by omega) HCI.out HCC.out (Nat.le_refl 4) ?aM (fun _ hk => hk.elim) ?aB ?_; (case aO => exact hO.out); (case aM => rw [List.take_zero, List.nil_append, List.drop_eq_nil_of_le (by rw [HCI.out]; exact Nat.le_refl _), List.append_nil]; exact k37_mkM _ _ _ r); (case aB => exact Below.refl base w3); intro w4 ho4 hb4 hg4; have n1_ := Aside0.mk ho4; have n2_ := Aside0.mk (hG.out.trans hg4); clear ho4 hb4 hg4)
     clear x0 x1 x2 x3 hO hG
     have hO := n1_
     have hG := n2_
     clear n1_ n2_
     go_wp2_with fail
     go_roundw
     case rel => exact ⟨i + 1, j + 1, cur.set i r, by go_num, by go_num, by omega, by omega, ⟨by rw [List.length_set]; exact hcl.out⟩, hk, hd, ⟨by simpa using hO.out⟩, hG⟩
     case measure => simp [intOf]; omega
   ·obtain rfl : j = l.length := by omega
    rw [List.take_length] at hck
    obtain ⟨i0_, hi_, hi0_, hi1_, hi2_⟩ := info_parts info37
    have hcut1 := cut_from (P := Tryz.prog) 22 37 .i64 Tryz.underlying22 hi_ 4 hi1_ (some ⟨g, 0, none⟩) l.length c (i : Int) (by omega) (by omega)
    have hcut2 := cut_to (P := Tryz.prog) 22 37 .i64 Tryz.underlying22 hi_ (some ⟨g, 0, none⟩) l.length c (i : Int) (by omega) (by omega) hc
    rw [Int.toNat_natCast, if_neg (by omega), Option.map_some, add_plain] at hcut1
    rw [Int.toNat_natCast] at hcut2
    obtain ⟨zs, hzs, hclr⟩ := clear_run wr 0 hO.out hij (c - i)
    have hzl : i * 4 + zs.length ≤ c * 4 := by rw [hzs]; omega
    have hres := R_tail (o := i * 4) (Kd.R_take hO.out (m := i) (by rw [hcl.out]; omega)) (Nat.le_refl _) hzl
    have HRES := Aside0.mk hres
    have HGR := Aside0.mk (hG.out.trans (setCells_grown wr g (i * 4) zs))
    clear hi_ hi0_ hi1_ hi2_ hzs hzl hres
    go_wp2_with fail
    go_ret
    exact ⟨_, rfl, by rw [← hck.out]; exact HRES.out, HGR.out⟩
end Go.Proofs.YtoimgijhekahhaaGreat.P
namespace Go.Proofs.YtoimgijhekahhaaGreat.P
open Go.RowKit Go.Proofs.YtoimgijhekahhaaGreatOwn Go.Proofs.YtoimgijhekahhaaGreatW.PrintWords Go.Proofs.YtoimgijhekahhaaGreatW.PrintLast Go.Proofs.YtoimgijhekahhaaGreatW.PrintMore
set_option linter.unusedVariables false
set_option linter.unusedSimpArgs false
attribute [local go_sem] max2_int min2_int max_two min_two
def kindV (i : Int) : Value := if i = 1 then .func (.func 31) #[] #[] else if i = 2 then .func (.func 33) #[] #[] else if i = 3 then .func (.func 35) #[] #[] else if i = 4 then .func (.func 37) #[] #[] else .nilFunc
def kindsE : Array MapEntry := #[⟨.int .i64 1, .func (.func 31) #[] #[], 0⟩, ⟨.int .i64 2, .func (.func 33) #[] #[], 1⟩, ⟨.int .i64 3, .func (.func 35) #[] #[], 2⟩, ⟨.int .i64 4, .func (.func 37) #[] #[], 3⟩]
theorem mapPut {W : World} {b : Nat} {es : Array MapEntry} {clock : Nat} (hb : W.heap[b]? = some (.map es clock)) (i : Int) (v : Value) (hf : Instr.findNow (.int .i64) (.int .i64 i) es.toList 0 = some none) :
  ∃ W1, (Instr.mapUpdate 58 (.map (some b)) (.int .i64 i) v).run Tryz.prog W = .ok () W1 ∧ W1.heap[b]? = some (.map (es.push ⟨.int .i64 i, v, clock⟩) (clock + 1)) ∧ Below b W W1 ∧ W1.heap.size = W.heap.size := by
 refine ⟨{ W with heap := W.heap.setIfInBounds b (.map (es.push ⟨.int .i64 i, v, clock⟩) (clock + 1)) }, ?_, (MapKept.heap_set hb).1, ⟨rfl, rfl, rfl, by simp, fun k hk => (MapKept.heap_set hb).2 k (by omega)⟩, by simp⟩
 simp [Instr.mapUpdate, run_underlying Tryz.underlying58, MapKept.run_getObj_map hb, MapKept.run_checkKey Tryz.underlying3 (show MapKept.IsKey (.int .i64) (.int .i64 i) from rfl), MapKept.run_findKey Tryz.underlying3 hf, MapKept.run_setObj_map _ hb, Result.andThen]
theorem mapGet {W : World} {b : Nat} (hb : W.heap[b]? = some (.map kindsE 4)) (i : Int) : (Instr.lookup 58 (.map (some b)) (.int .i64 i) false).run Tryz.prog W = .ok (kindV i) W := by
 have hz : (zeroValue 57).run Tryz.prog W = .ok .nilFunc W := by kernel_rfl
 have hf : ∃ r, Instr.findNow (.int .i64) (.int .i64 i) kindsE.toList 0 = some r ∧ (match r with | some (_, v) => v | none => .nilFunc) = kindV i := by
  unfold kindV
  by_cases h1 : i = 1
  ·subst h1; exact ⟨_, rfl, rfl⟩
  by_cases h2 : i = 2
  ·subst h2; exact ⟨_, rfl, rfl⟩
  by_cases h3 : i = 3
  ·subst h3; exact ⟨_, rfl, rfl⟩
  by_cases h4 : i = 4
  ·subst h4; exact ⟨_, rfl, rfl⟩
  ·rw [if_neg h1, if_neg h2, if_neg h3, if_neg h4]
   refine ⟨none, ?_, rfl⟩
   have e1 : (i == 1) = false := beq_eq_false_iff_ne.2 h1
   have e2 : (i == 2) = false := beq_eq_false_iff_ne.2 h2
   have e3 : (i == 3) = false := beq_eq_false_iff_ne.2 h3
   have e4 : (i == 4) = false := beq_eq_false_iff_ne.2 h4
   simp only [kindsE, Instr.findNow, Instr.sameNow, if_true, e1, e2, e3, e4]
 obtain ⟨r, hr, hv⟩ := hf
 simp [Instr.lookup, run_underlying Tryz.underlying58, MapKept.run_getObj_map hb, MapKept.run_checkKey Tryz.underlying3 (show MapKept.IsKey (.int .i64) (.int .i64 i) from rfl), MapKept.run_findKey Tryz.underlying3 hr, Result.andThen]
 cases r with
 | none => rw [← hv]; simp [hz, Result.andThen]
 | some q => obtain ⟨_, v⟩ := q; rw [← hv]; simp [Result.andThen]
set_option maxRecDepth 100000 in
set_option maxHeartbeats 4000000 in
theorem kinds_calls (w : World) : Calls Tryz.prog 20 #[] w fun e w' => ∃ b, e = .returned (.map (some b)) ∧ w'.heap[b]? = some (.map kindsE 4) ∧ w.heap.size ≤ b ∧ Below w.heap.size w w' := by
 have hmm := @run_makeMap Tryz.prog
 obtain ⟨W0, hW0⟩ : ∃ W0, w.alloc (.map #[] 0) = W0 := ⟨_, rfl⟩
 have h0 : W0.heap[w.heap.size]? = some (.map #[] 0) := by rw [← hW0]; exact World.alloc_heap_new w _
 have B0 : Below w.heap.size w W0 := by rw [← hW0]; exact below_alloc' (Below.refl _ w) _
 obtain ⟨W1, r1, h1, B1, z1⟩ := mapPut h0 1 (.func (.func 31) #[] #[]) rfl
 obtain ⟨W2, r2, h2, B2, z2⟩ := mapPut h1 2 (.func (.func 33) #[] #[]) rfl
 obtain ⟨W3, r3, h3, B3, z3⟩ := mapPut h2 3 (.func (.func 35) #[] #[]) rfl
 obtain ⟨W4, r4, h4, B4, z4⟩ := mapPut h3 4 (.func (.func 37) #[] #[]) rfl
 have HH := Aside0.mk h4
 have HB := Aside0.mk (((B0.trans B1).trans B2).trans (B3.trans B4))
 clear h0 h1 h2 h3 h4 B0 B1 B2 B3 B4 z1 z2 z3 z4
 go_enter Tryz.func20, Tryz.ntmps20
 go_wp2
 go_ret
 exact ⟨_, rfl, HH.out, Nat.le_refl _, HB.out⟩
theorem eqlF_nil (w : World) : (binOp .eql 57 .nilFunc .nilFunc).run Tryz.prog w = .ok (.bool true) w := by
 have h : ∀ d : Nat, (Op.equalIn (d + 1) 57 .nilFunc .nilFunc).run Tryz.prog w = .ok true w := fun d => by simp [Op.equalIn, run_underlying Tryz.underlying57]
 simp only [binOp]
 simp [Op.equal, Op.maxDepth, h 9999]
theorem eqlF_some (w : World) (f : Fn) (fr lb : Array Value) : (binOp .eql 57 (.func f fr lb) .nilFunc).run Tryz.prog w = .ok (.bool false) w := by
 have h : ∀ d : Nat, (Op.equalIn (d + 1) 57 (.func f fr lb) .nilFunc).run Tryz.prog w = .ok false w := fun d => by simp [Op.equalIn, run_underlying Tryz.underlying57]
 simp only [binOp]
 simp [Op.equal, Op.maxDepth, h 9999]
end Go.Proofs.YtoimgijhekahhaaGreat.P

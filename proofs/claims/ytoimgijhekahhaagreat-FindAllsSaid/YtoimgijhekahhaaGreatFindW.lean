/- Layer 11: what the reference's query asks for (sphragisref11.asked): walked. -/
import Derived.Test.YtoimgijhekahhaaGreatReP
import Derived.Test.YtoimgijhekahhaaGreatJPlainB
import Derived.Test.YtoimgijhekahhaaGreatStep
import Derived.Test.YtoimgijhekahhaaGreatPx14
import Derived.Test.YtoimgijhekahhaaGreatPx1501
import Derived.Test.YtoimgijhekahhaaGreatPx16
namespace Go.Proofs.YtoimgijhekahhaaGreat.P
open Go.RowKit Go.Proofs.YtoimgijhekahhaaGreatOwn Go.Proofs.YtoimgijhekahhaaGreatW.PrintWords Go.Proofs.YtoimgijhekahhaaGreatW.PrintLast Go.Proofs.YtoimgijhekahhaaGreatW.PrintMore
set_option linter.unusedVariables false
set_option linter.unusedSimpArgs false
def asked_T14 : Bool × List (List Nat × List Nat) := (true, [([], []), ([0], [0]), ([1], [1]), ([2], [2]), ([3], [3]), ([3], [3]), ([4, 5, 3], [3, 4, 5]), ([6, 3], [3, 6]), ([7, 3], [3, 7]), ([3], [3]), ([9, 3], [3, 9]), ([8, 10, 3], [3, 8, 10]), ([3, 11], [3, 11])])
def asked_B14 : List Nat := [0, 1, 3, 7, 15, 15, 63, 127, 255, 15, 527, 2047, 4095]
theorem asked_tab14 : rtab .any (opsOf Tryz.f19 14) = asked_T14 := by kernel_rfl
theorem asked_bits14 : waitsOk asked_T14.2 asked_B14 = true := by kernel_rfl
def keepB (q : Q11) (r : Row) : Bool := !q.from_ || decide (q.after < r.f0)
theorem keep_left {q : Q11} (h3 : q.kind ≠ 3) (L : List Row) : L.filter (keepB q) = leftQ q L := by
 unfold leftQ keepB
 by_cases hf : q.from_ = true
 ·rw [if_pos ⟨hf, h3⟩]
  refine List.filter_congr fun r _ => ?_
  unfold goneB
  rw [hf, Bool.eq_iff_iff]
  simp
 ·rw [if_neg (fun h => hf h.1)]
  have : q.from_ = false := by simpa using hf
  rw [this]
  simp
set_option maxRecDepth 100000 in
set_option maxHeartbeats 8000000 in
theorem asked_4T (k : Nat) (q : Q11) (hf : q.from_ = true) (AL : Option Addr) (c : Nat) (L : List Row) (hL : L.length ≤ 1000) (w : World) (hC : Kd.C k37 w AL L.length L) (hcc : L.length ≤ c) (h4 : q.kind = 4) :
  Calls Tryz.prog 19 #[.slice AL L.length c, .agg (encQ q)] w fun e w' => ∃ v, e = .returned v ∧ Kd.R k37 37 w' w.heap.size (fun _ => True) v (L.filter (keepB q)) ∧ Below w.heap.size w w' := by
 have HFR := Aside0.mk hf
 obtain ⟨w0, hw0⟩ : ∃ w0, w.alloc (.cells #[.int .i64 q.kind, .int .u32 q.b0, .int .u32 q.b1, .int .u32 q.b2, .int .u32 q.b3, .int .u32 q.x, .int .u32 q.y, .int .u64 q.sq, .int .i64 q.k, .int .u64 q.after, .bool true] 28) = w0 := ⟨_, rfl⟩
 have X0 := Aside0.mk (show w0.heap[w.heap.size]? = some (.cells #[.int .i64 q.kind, .int .u32 q.b0, .int .u32 q.b1, .int .u32 q.b2, .int .u32 q.b3, .int .u32 q.x, .int .u32 q.y, .int .u64 q.sq, .int .i64 q.k, .int .u64 q.after, .bool true] 28 (0, 0)) by rw [← hw0]; exact boxc_new w #[.int .i64 q.kind, .int .u32 q.b0, .int .u32 q.b1, .int .u32 q.b2, .int .u32 q.b3, .int .u32 q.x, .int .u32 q.y, .int .u64 q.sq, .int .i64 q.k, .int .u64 q.after, .bool true] 28)
 have B0 := Aside0.mk (show Below w.heap.size w w0 by rw [← hw0]; exact below_alloc' (Below.refl _ w) _)
 have C0 := Aside0.mk (Kd.C_below hC B0.out)
 have e3 : (q.kind == 3) = false := beq_eq_false_iff_ne.2 (by omega)
 have e1 : (q.kind == 1) = false := beq_eq_false_iff_ne.2 (by omega)
 have e2 : (q.kind == 2) = false := beq_eq_false_iff_ne.2 (by omega)
 clear h4 hC
 unfold encQ
 rw [hf]
 clear hf
 have x0 := boxc_cell X0.out 0
 have x1 := boxc_cell X0.out 1
 have x2 := boxc_cell X0.out 2
 have x3 := boxc_cell X0.out 3
 have x4 := boxc_cell X0.out 4
 have x5 := boxc_cell X0.out 5
 have x6 := boxc_cell X0.out 6
 have x7 := boxc_cell X0.out 7
 have x8 := boxc_cell X0.out 8
 have x9 := boxc_cell X0.out 9
 have x10 := boxc_cell X0.out 10
 have HX := X0
 have HBB := B0
 have HCL := C0
 have hmx := C0.out.2.1
 go_enter Tryz.func19, Tryz.ntmps19
 go_wp2_with fail
 go_loopw [6, 7] (fun ov jv V => ∃ j : Nat, jv = .int .i64 (j : Int) ∧ j ≤ L.length ∧ Aside0 (Kd.R k37 37 V w0.heap.size (fun _ => True) ov ((L.take j).filter (keepB q))) ∧ Aside0 (Below w0.heap.size w0 V)) (fun _ jv _ => L.length - (intOf jv).toNat)
 case atStart => exact ⟨0, rfl, Nat.zero_le _, ⟨by rw [List.take_zero]; exact Kd.R_nil _ _ _ _ _⟩, ⟨Below.refl _ _⟩⟩
 case round =>
  obtain ⟨j, rfl, hj, hO, hB⟩ := hrel
  by_cases hj2 : j < L.length
  ·obtain ⟨ad, e, r0, r1, r2, r3⟩ := at_T37 HCL.out (j : Int) (by omega) (by omega)
   subst e
   simp only [Int.toNat_natCast] at r0 r1 r2 r3
   have hrn : rd_T37 L (j : Int) = L[j] := by unfold rd_T37; simp [List.getD, hj2]
   have hget : L.take (j + 1) = L.take j ++ [rd_T37 L (j : Int)] := by rw [hrn]; exact List.take_succ_eq_append_getElem hj2
   generalize rd_T37 L (j : Int) = r at hget r0 r1 r2 r3
   have HGET := Aside0.mk hget
   have hjn : 0 ≤ (j : Int) := Int.natCast_nonneg j
   have HX9 := Aside0.mk (blk_drew (boxc_below HX.out hB.out))
   have n1_ := Aside0.mk (Kd.R_drew hO.out)
   have n4_ := Aside0.mk (below_drew1 hB.out)
   have hrm : ∀ {p : Addr} {v : Value}, w0.cell? p = some v → wr.drew.cell? p = some v := fun h => (n4_.out.cell (World.block_lt_of_cell? w0 _ h)).trans h
   replace r0 := hrm r0
   replace r1 := hrm r1
   replace r2 := hrm r2
   replace r3 := hrm r3
   clear hrn hget hO hB hrm
   go_wp2_with fail
   refine start_ (n := 13) (S := fun w' => w'.cell? ⟨w.heap.size, 9, none⟩ = some (.int .u64 q.after) ∧ w'.cell? ⟨w.heap.size, 10, none⟩ = some (.bool true) ∧ w'.cell? (ad.add (j * 4)) = some (.int .u64 r.f0)) (ds := []) #[false, false, false, false, false, false, false, false, false, false, false, false, false] (by kernel_rfl) rfl rfl ⟨(blk_cell HX9.out 9).trans rfl, (blk_cell HX9.out 10).trans rfl, r0⟩ (fun hHeld => ?_); refine with_tabW asked_tab14 asked_bits14 (fun HT_ HW_ => ?_)
   generalize wr.drew = w5 at HX9 n1_ n4_ r0 r1 r2 r3 hHeld ⊢
   refine pA 0 HT_ ?_
   refine tA 1 HT_ HW_ ?_
   refine pA 2 HT_ ?_
   refine pA 3 HT_ ?_
   refine pA 4 HT_ ?_
   refine pA 5 HT_ ?_
   refine pA 6 HT_ ?_
   refine pA 7 HT_ ?_
   refine tA 8 HT_ HW_ ?_
   refine pA 9 HT_ ?_
   refine tA 10 HT_ HW_ ?_
   refine pA 11 HT_ ?_
   refine pA 12 HT_ ?_
   refine done_ (done_of HT_.out (by kernel_rfl)) ?_
   clear HT_ HW_ hHeld
   have HO := n1_
   have HB := n4_
   have HFL := Aside0.mk (show ((L.take j).filter (keepB q)).length ≤ 1000 by have := List.length_filter_le (keepB q) (L.take j); rw [List.length_take] at this; omega)
   clear n1_ n4_
   by_cases hk : q.after < r.f0
   ·have hkd : decide (q.after < r.f0) = true := decide_eq_true hk
    have HKP := Aside0.mk (show (L.take (j + 1)).filter (keepB q) = (L.take j).filter (keepB q) ++ [r] by rw [HGET.out, List.filter_append, show [r].filter (keepB q) = [r] by simp [keepB, hk]])
    go_wp2_with ((with_reducible refine gate_builtin (b := .append) (xs := #[.tmp 66, .tmp 71]) rfl ?_); at_builtin; refine Kd.R_append k37 (w0 := w0) w0.heap.size rfl (.tmp 66) (.tmp 71) 22 37 (.agg #[(.int .u64 0), (.int .u32 0), (.int .u32 0), (.string ⟨#[]⟩)]) 32 rfl Tryz.underlying22 info37 rfl (by decide) (by omega) u6 ((L.take j).filter (keepB q)) r [.int .u64 r.f0, .int .u32 r.f1, .int .u32 r.f2, .string r.f3] (fun _ => True) (fun _ => False) rfl rfl ?aP (fun _ hk => hk.elim) ?aF ?aO ?aB ?aS ?aL ?_; (case aP => exact k37_mkM _ _ _ r); (case aB => exact HB.out); (case aF => exact (fun _ _ => trivial)); (case aO => exact HO.out); (case aS => exact HB.out.size); (case aL => have := HFL.out; omega); intro v9 w9 ho hb hg hat; have HO9 := Aside0.mk ho; have HB9 := Aside0.mk hb; clear ho hb hg hat)
    go_roundw
    case rel => exact ⟨j + 1, by go_num, by omega, ⟨by rw [HKP.out]; exact HO9.out⟩, HB9⟩
    case measure => simp [intOf]; omega
   ·have hkd : decide (q.after < r.f0) = false := decide_eq_false hk
    have HKP := Aside0.mk (show (L.take (j + 1)).filter (keepB q) = (L.take j).filter (keepB q) by rw [HGET.out, List.filter_append, show [r].filter (keepB q) = [] by simp [keepB, hk, HFR.out], List.append_nil])
    have hk' : r.f0 ≤ q.after := by omega
    go_wp2_with fail
    go_roundw
    case rel => exact ⟨j + 1, by go_num, by omega, ⟨by rw [HKP.out]; exact HO.out⟩, HB⟩
    case measure => simp [intOf]; omega
  ·obtain rfl : j = L.length := by omega
   have hO2 := hO.out
   rw [List.take_length] at hO2
   have HO2 := Aside0.mk hO2
   have HB2 := Aside0.mk (below_call HBB.out hB.out)
   clear hO hO2 hB
   go_wp2
   go_ret
   exact ⟨_, rfl, Kd.R_lower HO2.out HBB.out.size, HB2.out⟩
set_option maxRecDepth 100000 in
set_option maxHeartbeats 8000000 in
theorem asked_4F (k : Nat) (q : Q11) (hf : q.from_ = false) (AL : Option Addr) (c : Nat) (L : List Row) (hL : L.length ≤ 1000) (w : World) (hC : Kd.C k37 w AL L.length L) (hcc : L.length ≤ c) (h4 : q.kind = 4) :
  Calls Tryz.prog 19 #[.slice AL L.length c, .agg (encQ q)] w fun e w' => ∃ v, e = .returned v ∧ Kd.R k37 37 w' w.heap.size (fun _ => True) v (L.filter (keepB q)) ∧ Below w.heap.size w w' := by
 have HFR := Aside0.mk hf
 obtain ⟨w0, hw0⟩ : ∃ w0, w.alloc (.cells #[.int .i64 q.kind, .int .u32 q.b0, .int .u32 q.b1, .int .u32 q.b2, .int .u32 q.b3, .int .u32 q.x, .int .u32 q.y, .int .u64 q.sq, .int .i64 q.k, .int .u64 q.after, .bool false] 28) = w0 := ⟨_, rfl⟩
 have X0 := Aside0.mk (show w0.heap[w.heap.size]? = some (.cells #[.int .i64 q.kind, .int .u32 q.b0, .int .u32 q.b1, .int .u32 q.b2, .int .u32 q.b3, .int .u32 q.x, .int .u32 q.y, .int .u64 q.sq, .int .i64 q.k, .int .u64 q.after, .bool false] 28 (0, 0)) by rw [← hw0]; exact boxc_new w #[.int .i64 q.kind, .int .u32 q.b0, .int .u32 q.b1, .int .u32 q.b2, .int .u32 q.b3, .int .u32 q.x, .int .u32 q.y, .int .u64 q.sq, .int .i64 q.k, .int .u64 q.after, .bool false] 28)
 have B0 := Aside0.mk (show Below w.heap.size w w0 by rw [← hw0]; exact below_alloc' (Below.refl _ w) _)
 have C0 := Aside0.mk (Kd.C_below hC B0.out)
 have e3 : (q.kind == 3) = false := beq_eq_false_iff_ne.2 (by omega)
 have e1 : (q.kind == 1) = false := beq_eq_false_iff_ne.2 (by omega)
 have e2 : (q.kind == 2) = false := beq_eq_false_iff_ne.2 (by omega)
 clear h4 hC
 unfold encQ
 rw [hf]
 clear hf
 have x0 := boxc_cell X0.out 0
 have x1 := boxc_cell X0.out 1
 have x2 := boxc_cell X0.out 2
 have x3 := boxc_cell X0.out 3
 have x4 := boxc_cell X0.out 4
 have x5 := boxc_cell X0.out 5
 have x6 := boxc_cell X0.out 6
 have x7 := boxc_cell X0.out 7
 have x8 := boxc_cell X0.out 8
 have x9 := boxc_cell X0.out 9
 have x10 := boxc_cell X0.out 10
 have HX := X0
 have HBB := B0
 have HCL := C0
 have hmx := C0.out.2.1
 go_enter Tryz.func19, Tryz.ntmps19
 go_wp2_with fail
 go_loopw [6, 7] (fun ov jv V => ∃ j : Nat, jv = .int .i64 (j : Int) ∧ j ≤ L.length ∧ Aside0 (Kd.R k37 37 V w0.heap.size (fun _ => True) ov ((L.take j).filter (keepB q))) ∧ Aside0 (Below w0.heap.size w0 V)) (fun _ jv _ => L.length - (intOf jv).toNat)
 case atStart => exact ⟨0, rfl, Nat.zero_le _, ⟨by rw [List.take_zero]; exact Kd.R_nil _ _ _ _ _⟩, ⟨Below.refl _ _⟩⟩
 case round =>
  obtain ⟨j, rfl, hj, hO, hB⟩ := hrel
  by_cases hj2 : j < L.length
  ·obtain ⟨ad, e, r0, r1, r2, r3⟩ := at_T37 HCL.out (j : Int) (by omega) (by omega)
   subst e
   simp only [Int.toNat_natCast] at r0 r1 r2 r3
   have hrn : rd_T37 L (j : Int) = L[j] := by unfold rd_T37; simp [List.getD, hj2]
   have hget : L.take (j + 1) = L.take j ++ [rd_T37 L (j : Int)] := by rw [hrn]; exact List.take_succ_eq_append_getElem hj2
   generalize rd_T37 L (j : Int) = r at hget r0 r1 r2 r3
   have HGET := Aside0.mk hget
   have hjn : 0 ≤ (j : Int) := Int.natCast_nonneg j
   have HX9 := Aside0.mk (blk_drew (boxc_below HX.out hB.out))
   have n1_ := Aside0.mk (Kd.R_drew hO.out)
   have n4_ := Aside0.mk (below_drew1 hB.out)
   have hrm : ∀ {p : Addr} {v : Value}, w0.cell? p = some v → wr.drew.cell? p = some v := fun h => (n4_.out.cell (World.block_lt_of_cell? w0 _ h)).trans h
   replace r0 := hrm r0
   replace r1 := hrm r1
   replace r2 := hrm r2
   replace r3 := hrm r3
   clear hrn hget hO hB hrm
   go_wp2_with fail
   refine start_ (n := 13) (S := fun w' => w'.cell? ⟨w.heap.size, 9, none⟩ = some (.int .u64 q.after) ∧ w'.cell? ⟨w.heap.size, 10, none⟩ = some (.bool false) ∧ w'.cell? (ad.add (j * 4)) = some (.int .u64 r.f0)) (ds := []) #[false, false, false, false, false, false, false, false, false, false, false, false, false] (by kernel_rfl) rfl rfl ⟨(blk_cell HX9.out 9).trans rfl, (blk_cell HX9.out 10).trans rfl, r0⟩ (fun hHeld => ?_); refine with_tabW asked_tab14 asked_bits14 (fun HT_ HW_ => ?_)
   generalize wr.drew = w5 at HX9 n1_ n4_ r0 r1 r2 r3 hHeld ⊢
   refine pA 0 HT_ ?_
   refine tA 1 HT_ HW_ ?_
   refine pA 2 HT_ ?_
   refine pA 3 HT_ ?_
   refine uA 4 HT_ ?_
   refine uA 5 HT_ ?_
   refine uA 6 HT_ ?_
   refine uA 7 HT_ ?_
   refine take_ (i := 8) (N := some 61) (v := undef) (a' := ?_) #[true, true, true, true, true, true, true, true, true, false, false, false, false] rfl rfl (take_ofW HT_.out HW_.out (by kernel_rfl)) (fun _ _ _ h => h) (Or.inr ⟨by rfl, rfl⟩) hHeld ?_ ?_
   rotate_left
   ·simp only [Act.put, List.setIfInBounds_toArray, List.set_cons_zero, List.set_cons_succ, i64_w, i32_w]
    rfl
   refine uA 9 HT_ ?_
   refine take_ (i := 10) (N := some 63) (v := undef) (a' := ?_) #[true, true, true, true, true, true, true, true, true, true, true, false, false] rfl rfl (take_ofW HT_.out HW_.out (by kernel_rfl)) (fun _ _ _ h => h) (Or.inr ⟨by rfl, rfl⟩) hHeld ?_ ?_
   rotate_left
   ·simp only [Act.put, List.setIfInBounds_toArray, List.set_cons_zero, List.set_cons_succ, i64_w, i32_w]
    rfl
   refine uA 11 HT_ ?_
   refine pA 12 HT_ ?_
   refine done_ (done_of HT_.out (by kernel_rfl)) ?_
   clear HT_ HW_ hHeld
   have HO := n1_
   have HB := n4_
   have HFL := Aside0.mk (show ((L.take j).filter (keepB q)).length ≤ 1000 by have := List.length_filter_le (keepB q) (L.take j); rw [List.length_take] at this; omega)
   clear n1_ n4_
   have HKP := Aside0.mk (show (L.take (j + 1)).filter (keepB q) = (L.take j).filter (keepB q) ++ [r] by rw [HGET.out, List.filter_append, show [r].filter (keepB q) = [r] by simp [keepB, HFR.out]])
   go_wp2_with ((with_reducible refine gate_builtin (b := .append) (xs := #[.tmp 66, .tmp 71]) rfl ?_); at_builtin; refine Kd.R_append k37 (w0 := w0) w0.heap.size rfl (.tmp 66) (.tmp 71) 22 37 (.agg #[(.int .u64 0), (.int .u32 0), (.int .u32 0), (.string ⟨#[]⟩)]) 32 rfl Tryz.underlying22 info37 rfl (by decide) (by omega) u6 ((L.take j).filter (keepB q)) r [.int .u64 r.f0, .int .u32 r.f1, .int .u32 r.f2, .string r.f3] (fun _ => True) (fun _ => False) rfl rfl ?aP (fun _ hk => hk.elim) ?aF ?aO ?aB ?aS ?aL ?_; (case aP => exact k37_mkM _ _ _ r); (case aB => exact HB.out); (case aF => exact (fun _ _ => trivial)); (case aO => exact HO.out); (case aS => exact HB.out.size); (case aL => have := HFL.out; omega); intro v9 w9 ho hb hg hat; have HO9 := Aside0.mk ho; have HB9 := Aside0.mk hb; clear ho hb hg hat)
   go_roundw
   case rel => exact ⟨j + 1, by go_num, by omega, ⟨by rw [HKP.out]; exact HO9.out⟩, HB9⟩
   case measure => simp [intOf]; omega
  ·obtain rfl : j = L.length := by omega
   have hO2 := hO.out
   rw [List.take_length] at hO2
   have HO2 := Aside0.mk hO2
   have HB2 := Aside0.mk (below_call HBB.out hB.out)
   clear hO hO2 hB
   go_wp2
   go_ret
   exact ⟨_, rfl, Kd.R_lower HO2.out HBB.out.size, HB2.out⟩
set_option maxRecDepth 100000 in
set_option maxHeartbeats 8000000 in
theorem asked_1T (k : Nat) (q : Q11) (hf : q.from_ = true) (A : Option Addr) (c : Nat) (l : List Row) (L : List Row) (er : Int) (hL : L.length ≤ 1000) (w : World) (hC : Kd.C k37 w A l.length l) (hcc : l.length ≤ c) (hcall : sphragisref09_Window.f k l q.b0 q.b1 q.b2 q.b3 = some (L, er)) (h4 : q.kind = 1) :
  Calls Tryz.prog 19 #[.slice A l.length c, .agg (encQ q)] w fun e w' => ∃ v, e = .returned v ∧ Kd.R k37 37 w' w.heap.size (fun _ => True) v (L.filter (keepB q)) ∧ Below w.heap.size w w' := by
 have HFR := Aside0.mk hf
 obtain ⟨w0, hw0⟩ : ∃ w0, w.alloc (.cells #[.int .i64 q.kind, .int .u32 q.b0, .int .u32 q.b1, .int .u32 q.b2, .int .u32 q.b3, .int .u32 q.x, .int .u32 q.y, .int .u64 q.sq, .int .i64 q.k, .int .u64 q.after, .bool true] 28) = w0 := ⟨_, rfl⟩
 have X0 := Aside0.mk (show w0.heap[w.heap.size]? = some (.cells #[.int .i64 q.kind, .int .u32 q.b0, .int .u32 q.b1, .int .u32 q.b2, .int .u32 q.b3, .int .u32 q.x, .int .u32 q.y, .int .u64 q.sq, .int .i64 q.k, .int .u64 q.after, .bool true] 28 (0, 0)) by rw [← hw0]; exact boxc_new w #[.int .i64 q.kind, .int .u32 q.b0, .int .u32 q.b1, .int .u32 q.b2, .int .u32 q.b3, .int .u32 q.x, .int .u32 q.y, .int .u64 q.sq, .int .i64 q.k, .int .u64 q.after, .bool true] 28)
 have B0 := Aside0.mk (show Below w.heap.size w w0 by rw [← hw0]; exact below_alloc' (Below.refl _ w) _)
 have C0 := Aside0.mk (Kd.C_below hC B0.out)
 have e3 : (q.kind == 3) = false := beq_eq_false_iff_ne.2 (by omega)
 have e1 : (q.kind == 1) = true := beq_iff_eq.2 h4
 clear h4 hC
 unfold encQ
 rw [hf]
 clear hf
 have x0 := boxc_cell X0.out 0
 have x1 := boxc_cell X0.out 1
 have x2 := boxc_cell X0.out 2
 have x3 := boxc_cell X0.out 3
 have x4 := boxc_cell X0.out 4
 have x5 := boxc_cell X0.out 5
 have x6 := boxc_cell X0.out 6
 have x7 := boxc_cell X0.out 7
 have x8 := boxc_cell X0.out 8
 have x9 := boxc_cell X0.out 9
 have x10 := boxc_cell X0.out 10
 have HCL0 := Aside0.mk hcall
 clear hcall
 go_enter Tryz.func19, Tryz.ntmps19
 go_wp2_with fail
 refine (sphragisref09_Window.calls k A c l q.b0 q.b1 q.b2 q.b3 L er _ C0.out hcc HCL0.out).mono ?_
 rintro e wb ⟨v7, rfl, hR7, hb7⟩
 obtain ⟨AL, cL, rfl⟩ := Kd.R_slice hR7
 have HX := Aside0.mk (boxc_below X0.out hb7)
 have HBB := Aside0.mk (below_call B0.out hb7)
 have HCL := Aside0.mk (Kd.R_reads' hR7).2.2
 have HR7 := Aside0.mk hR7
 have HHB := Aside0.mk hb7
 have hmx := HCL.out.2.1
 clear hR7 hb7 x0 x1 x2 x3 x4 x5 x6 x7 x8 x9 x10
 have x10 := boxc_cell HX.out 10
 go_wp2_with fail
 go_loopw [6, 7] (fun ov jv V => ∃ j : Nat, jv = .int .i64 (j : Int) ∧ j ≤ L.length ∧ Aside0 (Kd.R k37 37 V wb.heap.size (fun _ => True) ov ((L.take j).filter (keepB q))) ∧ Aside0 (Below wb.heap.size wb V)) (fun _ jv _ => L.length - (intOf jv).toNat)
 case atStart => exact ⟨0, rfl, Nat.zero_le _, ⟨by rw [List.take_zero]; exact Kd.R_nil _ _ _ _ _⟩, ⟨Below.refl _ _⟩⟩
 case round =>
  obtain ⟨j, rfl, hj, hO, hB⟩ := hrel
  by_cases hj2 : j < L.length
  ·obtain ⟨ad, e, r0, r1, r2, r3⟩ := at_T37 HCL.out (j : Int) (by omega) (by omega)
   subst e
   simp only [Int.toNat_natCast] at r0 r1 r2 r3
   have hrn : rd_T37 L (j : Int) = L[j] := by unfold rd_T37; simp [List.getD, hj2]
   have hget : L.take (j + 1) = L.take j ++ [rd_T37 L (j : Int)] := by rw [hrn]; exact List.take_succ_eq_append_getElem hj2
   generalize rd_T37 L (j : Int) = r at hget r0 r1 r2 r3
   have HGET := Aside0.mk hget
   have hjn : 0 ≤ (j : Int) := Int.natCast_nonneg j
   have HX9 := Aside0.mk (blk_drew (boxc_below HX.out hB.out))
   have n1_ := Aside0.mk (Kd.R_drew hO.out)
   have n4_ := Aside0.mk (below_drew1 hB.out)
   have hrm : ∀ {p : Addr} {v : Value}, wb.cell? p = some v → wr.drew.cell? p = some v := fun h => (n4_.out.cell (World.block_lt_of_cell? wb _ h)).trans h
   replace r0 := hrm r0
   replace r1 := hrm r1
   replace r2 := hrm r2
   replace r3 := hrm r3
   clear hrn hget hO hB hrm
   go_wp2_with fail
   refine start_ (n := 13) (S := fun w' => w'.cell? ⟨w.heap.size, 9, none⟩ = some (.int .u64 q.after) ∧ w'.cell? ⟨w.heap.size, 10, none⟩ = some (.bool true) ∧ w'.cell? (ad.add (j * 4)) = some (.int .u64 r.f0)) (ds := []) #[false, false, false, false, false, false, false, false, false, false, false, false, false] (by kernel_rfl) rfl rfl ⟨(blk_cell HX9.out 9).trans rfl, (blk_cell HX9.out 10).trans rfl, r0⟩ (fun hHeld => ?_); refine with_tabW asked_tab14 asked_bits14 (fun HT_ HW_ => ?_)
   generalize wr.drew = w5 at HX9 n1_ n4_ r0 r1 r2 r3 hHeld ⊢
   refine pA 0 HT_ ?_
   refine tA 1 HT_ HW_ ?_
   refine pA 2 HT_ ?_
   refine pA 3 HT_ ?_
   refine pA 4 HT_ ?_
   refine pA 5 HT_ ?_
   refine pA 6 HT_ ?_
   refine pA 7 HT_ ?_
   refine tA 8 HT_ HW_ ?_
   refine pA 9 HT_ ?_
   refine tA 10 HT_ HW_ ?_
   refine pA 11 HT_ ?_
   refine pA 12 HT_ ?_
   refine done_ (done_of HT_.out (by kernel_rfl)) ?_
   clear HT_ HW_ hHeld
   have HO := n1_
   have HB := n4_
   have HFL := Aside0.mk (show ((L.take j).filter (keepB q)).length ≤ 1000 by have := List.length_filter_le (keepB q) (L.take j); rw [List.length_take] at this; omega)
   clear n1_ n4_
   by_cases hk : q.after < r.f0
   ·have hkd : decide (q.after < r.f0) = true := decide_eq_true hk
    have HKP := Aside0.mk (show (L.take (j + 1)).filter (keepB q) = (L.take j).filter (keepB q) ++ [r] by rw [HGET.out, List.filter_append, show [r].filter (keepB q) = [r] by simp [keepB, hk]])
    go_wp2_with ((with_reducible refine gate_builtin (b := .append) (xs := #[.tmp 66, .tmp 71]) rfl ?_); at_builtin; refine Kd.R_append k37 (w0 := wb) wb.heap.size rfl (.tmp 66) (.tmp 71) 22 37 (.agg #[(.int .u64 0), (.int .u32 0), (.int .u32 0), (.string ⟨#[]⟩)]) 32 rfl Tryz.underlying22 info37 rfl (by decide) (by omega) u6 ((L.take j).filter (keepB q)) r [.int .u64 r.f0, .int .u32 r.f1, .int .u32 r.f2, .string r.f3] (fun _ => True) (fun _ => False) rfl rfl ?aP (fun _ hk => hk.elim) ?aF ?aO ?aB ?aS ?aL ?_; (case aP => exact k37_mkM _ _ _ r); (case aB => exact HB.out); (case aF => exact (fun _ _ => trivial)); (case aO => exact HO.out); (case aS => exact HB.out.size); (case aL => have := HFL.out; omega); intro v9 w9 ho hb hg hat; have HO9 := Aside0.mk ho; have HB9 := Aside0.mk hb; clear ho hb hg hat)
    go_roundw
    case rel => exact ⟨j + 1, by go_num, by omega, ⟨by rw [HKP.out]; exact HO9.out⟩, HB9⟩
    case measure => simp [intOf]; omega
   ·have hkd : decide (q.after < r.f0) = false := decide_eq_false hk
    have HKP := Aside0.mk (show (L.take (j + 1)).filter (keepB q) = (L.take j).filter (keepB q) by rw [HGET.out, List.filter_append, show [r].filter (keepB q) = [] by simp [keepB, hk, HFR.out], List.append_nil])
    have hk' : r.f0 ≤ q.after := by omega
    go_wp2_with fail
    go_roundw
    case rel => exact ⟨j + 1, by go_num, by omega, ⟨by rw [HKP.out]; exact HO.out⟩, HB⟩
    case measure => simp [intOf]; omega
  ·obtain rfl : j = L.length := by omega
   have hO2 := hO.out
   rw [List.take_length] at hO2
   have HO2 := Aside0.mk hO2
   have HB2 := Aside0.mk (below_call HBB.out hB.out)
   clear hO hO2 hB
   go_wp2
   go_ret
   exact ⟨_, rfl, Kd.R_lower HO2.out HBB.out.size, HB2.out⟩
set_option maxRecDepth 100000 in
set_option maxHeartbeats 8000000 in
theorem asked_1F (k : Nat) (q : Q11) (hf : q.from_ = false) (A : Option Addr) (c : Nat) (l : List Row) (L : List Row) (er : Int) (hL : L.length ≤ 1000) (w : World) (hC : Kd.C k37 w A l.length l) (hcc : l.length ≤ c) (hcall : sphragisref09_Window.f k l q.b0 q.b1 q.b2 q.b3 = some (L, er)) (h4 : q.kind = 1) :
  Calls Tryz.prog 19 #[.slice A l.length c, .agg (encQ q)] w fun e w' => ∃ v, e = .returned v ∧ Kd.R k37 37 w' w.heap.size (fun _ => True) v (L.filter (keepB q)) ∧ Below w.heap.size w w' := by
 have HFR := Aside0.mk hf
 obtain ⟨w0, hw0⟩ : ∃ w0, w.alloc (.cells #[.int .i64 q.kind, .int .u32 q.b0, .int .u32 q.b1, .int .u32 q.b2, .int .u32 q.b3, .int .u32 q.x, .int .u32 q.y, .int .u64 q.sq, .int .i64 q.k, .int .u64 q.after, .bool false] 28) = w0 := ⟨_, rfl⟩
 have X0 := Aside0.mk (show w0.heap[w.heap.size]? = some (.cells #[.int .i64 q.kind, .int .u32 q.b0, .int .u32 q.b1, .int .u32 q.b2, .int .u32 q.b3, .int .u32 q.x, .int .u32 q.y, .int .u64 q.sq, .int .i64 q.k, .int .u64 q.after, .bool false] 28 (0, 0)) by rw [← hw0]; exact boxc_new w #[.int .i64 q.kind, .int .u32 q.b0, .int .u32 q.b1, .int .u32 q.b2, .int .u32 q.b3, .int .u32 q.x, .int .u32 q.y, .int .u64 q.sq, .int .i64 q.k, .int .u64 q.after, .bool false] 28)
 have B0 := Aside0.mk (show Below w.heap.size w w0 by rw [← hw0]; exact below_alloc' (Below.refl _ w) _)
 have C0 := Aside0.mk (Kd.C_below hC B0.out)
 have e3 : (q.kind == 3) = false := beq_eq_false_iff_ne.2 (by omega)
 have e1 : (q.kind == 1) = true := beq_iff_eq.2 h4
 clear h4 hC
 unfold encQ
 rw [hf]
 clear hf
 have x0 := boxc_cell X0.out 0
 have x1 := boxc_cell X0.out 1
 have x2 := boxc_cell X0.out 2
 have x3 := boxc_cell X0.out 3
 have x4 := boxc_cell X0.out 4
 have x5 := boxc_cell X0.out 5
 have x6 := boxc_cell X0.out 6
 have x7 := boxc_cell X0.out 7
 have x8 := boxc_cell X0.out 8
 have x9 := boxc_cell X0.out 9
 have x10 := boxc_cell X0.out 10
 have HCL0 := Aside0.mk hcall
 clear hcall
 go_enter Tryz.func19, Tryz.ntmps19
 go_wp2_with fail
 refine (sphragisref09_Window.calls k A c l q.b0 q.b1 q.b2 q.b3 L er _ C0.out hcc HCL0.out).mono ?_
 rintro e wb ⟨v7, rfl, hR7, hb7⟩
 obtain ⟨AL, cL, rfl⟩ := Kd.R_slice hR7
 have HX := Aside0.mk (boxc_below X0.out hb7)
 have HBB := Aside0.mk (below_call B0.out hb7)
 have HCL := Aside0.mk (Kd.R_reads' hR7).2.2
 have HR7 := Aside0.mk hR7
 have HHB := Aside0.mk hb7
 have hmx := HCL.out.2.1
 clear hR7 hb7 x0 x1 x2 x3 x4 x5 x6 x7 x8 x9 x10
 have x10 := boxc_cell HX.out 10
 go_wp2_with fail
 go_loopw [6, 7] (fun ov jv V => ∃ j : Nat, jv = .int .i64 (j : Int) ∧ j ≤ L.length ∧ Aside0 (Kd.R k37 37 V wb.heap.size (fun _ => True) ov ((L.take j).filter (keepB q))) ∧ Aside0 (Below wb.heap.size wb V)) (fun _ jv _ => L.length - (intOf jv).toNat)
 case atStart => exact ⟨0, rfl, Nat.zero_le _, ⟨by rw [List.take_zero]; exact Kd.R_nil _ _ _ _ _⟩, ⟨Below.refl _ _⟩⟩
 case round =>
  obtain ⟨j, rfl, hj, hO, hB⟩ := hrel
  by_cases hj2 : j < L.length
  ·obtain ⟨ad, e, r0, r1, r2, r3⟩ := at_T37 HCL.out (j : Int) (by omega) (by omega)
   subst e
   simp only [Int.toNat_natCast] at r0 r1 r2 r3
   have hrn : rd_T37 L (j : Int) = L[j] := by unfold rd_T37; simp [List.getD, hj2]
   have hget : L.take (j + 1) = L.take j ++ [rd_T37 L (j : Int)] := by rw [hrn]; exact List.take_succ_eq_append_getElem hj2
   generalize rd_T37 L (j : Int) = r at hget r0 r1 r2 r3
   have HGET := Aside0.mk hget
   have hjn : 0 ≤ (j : Int) := Int.natCast_nonneg j
   have HX9 := Aside0.mk (blk_drew (boxc_below HX.out hB.out))
   have n1_ := Aside0.mk (Kd.R_drew hO.out)
   have n4_ := Aside0.mk (below_drew1 hB.out)
   have hrm : ∀ {p : Addr} {v : Value}, wb.cell? p = some v → wr.drew.cell? p = some v := fun h => (n4_.out.cell (World.block_lt_of_cell? wb _ h)).trans h
   replace r0 := hrm r0
   replace r1 := hrm r1
   replace r2 := hrm r2
   replace r3 := hrm r3
   clear hrn hget hO hB hrm
   go_wp2_with fail
   refine start_ (n := 13) (S := fun w' => w'.cell? ⟨w.heap.size, 9, none⟩ = some (.int .u64 q.after) ∧ w'.cell? ⟨w.heap.size, 10, none⟩ = some (.bool false) ∧ w'.cell? (ad.add (j * 4)) = some (.int .u64 r.f0)) (ds := []) #[false, false, false, false, false, false, false, false, false, false, false, false, false] (by kernel_rfl) rfl rfl ⟨(blk_cell HX9.out 9).trans rfl, (blk_cell HX9.out 10).trans rfl, r0⟩ (fun hHeld => ?_); refine with_tabW asked_tab14 asked_bits14 (fun HT_ HW_ => ?_)
   generalize wr.drew = w5 at HX9 n1_ n4_ r0 r1 r2 r3 hHeld ⊢
   refine pA 0 HT_ ?_
   refine tA 1 HT_ HW_ ?_
   refine pA 2 HT_ ?_
   refine pA 3 HT_ ?_
   refine uA 4 HT_ ?_
   refine uA 5 HT_ ?_
   refine uA 6 HT_ ?_
   refine uA 7 HT_ ?_
   refine take_ (i := 8) (N := some 61) (v := undef) (a' := ?_) #[true, true, true, true, true, true, true, true, true, false, false, false, false] rfl rfl (take_ofW HT_.out HW_.out (by kernel_rfl)) (fun _ _ _ h => h) (Or.inr ⟨by rfl, rfl⟩) hHeld ?_ ?_
   rotate_left
   ·simp only [Act.put, List.setIfInBounds_toArray, List.set_cons_zero, List.set_cons_succ, i64_w, i32_w]
    rfl
   refine uA 9 HT_ ?_
   refine take_ (i := 10) (N := some 63) (v := undef) (a' := ?_) #[true, true, true, true, true, true, true, true, true, true, true, false, false] rfl rfl (take_ofW HT_.out HW_.out (by kernel_rfl)) (fun _ _ _ h => h) (Or.inr ⟨by rfl, rfl⟩) hHeld ?_ ?_
   rotate_left
   ·simp only [Act.put, List.setIfInBounds_toArray, List.set_cons_zero, List.set_cons_succ, i64_w, i32_w]
    rfl
   refine uA 11 HT_ ?_
   refine pA 12 HT_ ?_
   refine done_ (done_of HT_.out (by kernel_rfl)) ?_
   clear HT_ HW_ hHeld
   have HO := n1_
   have HB := n4_
   have HFL := Aside0.mk (show ((L.take j).filter (keepB q)).length ≤ 1000 by have := List.length_filter_le (keepB q) (L.take j); rw [List.length_take] at this; omega)
   clear n1_ n4_
   have HKP := Aside0.mk (show (L.take (j + 1)).filter (keepB q) = (L.take j).filter (keepB q) ++ [r] by rw [HGET.out, List.filter_append, show [r].filter (keepB q) = [r] by simp [keepB, HFR.out]])
   go_wp2_with ((with_reducible refine gate_builtin (b := .append) (xs := #[.tmp 66, .tmp 71]) rfl ?_); at_builtin; refine Kd.R_append k37 (w0 := wb) wb.heap.size rfl (.tmp 66) (.tmp 71) 22 37 (.agg #[(.int .u64 0), (.int .u32 0), (.int .u32 0), (.string ⟨#[]⟩)]) 32 rfl Tryz.underlying22 info37 rfl (by decide) (by omega) u6 ((L.take j).filter (keepB q)) r [.int .u64 r.f0, .int .u32 r.f1, .int .u32 r.f2, .string r.f3] (fun _ => True) (fun _ => False) rfl rfl ?aP (fun _ hk => hk.elim) ?aF ?aO ?aB ?aS ?aL ?_; (case aP => exact k37_mkM _ _ _ r); (case aB => exact HB.out); (case aF => exact (fun _ _ => trivial)); (case aO => exact HO.out); (case aS => exact HB.out.size); (case aL => have := HFL.out; omega); intro v9 w9 ho hb hg hat; have HO9 := Aside0.mk ho; have HB9 := Aside0.mk hb; clear ho hb hg hat)
   go_roundw
   case rel => exact ⟨j + 1, by go_num, by omega, ⟨by rw [HKP.out]; exact HO9.out⟩, HB9⟩
   case measure => simp [intOf]; omega
  ·obtain rfl : j = L.length := by omega
   have hO2 := hO.out
   rw [List.take_length] at hO2
   have HO2 := Aside0.mk hO2
   have HB2 := Aside0.mk (below_call HBB.out hB.out)
   clear hO hO2 hB
   go_wp2
   go_ret
   exact ⟨_, rfl, Kd.R_lower HO2.out HBB.out.size, HB2.out⟩
set_option maxRecDepth 100000 in
set_option maxHeartbeats 8000000 in
theorem asked_2T (k : Nat) (q : Q11) (hf : q.from_ = true) (A : Option Addr) (c : Nat) (l : List Row) (L : List Row) (er : Int) (hL : L.length ≤ 1000) (w : World) (hC : Kd.C k37 w A l.length l) (hcc : l.length ≤ c) (hcall : sphragisref09_Round.f k l q.x q.y q.sq = some (L, er)) (h4 : q.kind = 2) :
  Calls Tryz.prog 19 #[.slice A l.length c, .agg (encQ q)] w fun e w' => ∃ v, e = .returned v ∧ Kd.R k37 37 w' w.heap.size (fun _ => True) v (L.filter (keepB q)) ∧ Below w.heap.size w w' := by
 have HFR := Aside0.mk hf
 obtain ⟨w0, hw0⟩ : ∃ w0, w.alloc (.cells #[.int .i64 q.kind, .int .u32 q.b0, .int .u32 q.b1, .int .u32 q.b2, .int .u32 q.b3, .int .u32 q.x, .int .u32 q.y, .int .u64 q.sq, .int .i64 q.k, .int .u64 q.after, .bool true] 28) = w0 := ⟨_, rfl⟩
 have X0 := Aside0.mk (show w0.heap[w.heap.size]? = some (.cells #[.int .i64 q.kind, .int .u32 q.b0, .int .u32 q.b1, .int .u32 q.b2, .int .u32 q.b3, .int .u32 q.x, .int .u32 q.y, .int .u64 q.sq, .int .i64 q.k, .int .u64 q.after, .bool true] 28 (0, 0)) by rw [← hw0]; exact boxc_new w #[.int .i64 q.kind, .int .u32 q.b0, .int .u32 q.b1, .int .u32 q.b2, .int .u32 q.b3, .int .u32 q.x, .int .u32 q.y, .int .u64 q.sq, .int .i64 q.k, .int .u64 q.after, .bool true] 28)
 have B0 := Aside0.mk (show Below w.heap.size w w0 by rw [← hw0]; exact below_alloc' (Below.refl _ w) _)
 have C0 := Aside0.mk (Kd.C_below hC B0.out)
 have e3 : (q.kind == 3) = false := beq_eq_false_iff_ne.2 (by omega)
 have e1 : (q.kind == 1) = false := beq_eq_false_iff_ne.2 (by omega)
 have e2 : (q.kind == 2) = true := beq_iff_eq.2 h4
 clear h4 hC
 unfold encQ
 rw [hf]
 clear hf
 have x0 := boxc_cell X0.out 0
 have x1 := boxc_cell X0.out 1
 have x2 := boxc_cell X0.out 2
 have x3 := boxc_cell X0.out 3
 have x4 := boxc_cell X0.out 4
 have x5 := boxc_cell X0.out 5
 have x6 := boxc_cell X0.out 6
 have x7 := boxc_cell X0.out 7
 have x8 := boxc_cell X0.out 8
 have x9 := boxc_cell X0.out 9
 have x10 := boxc_cell X0.out 10
 have HCL0 := Aside0.mk hcall
 clear hcall
 go_enter Tryz.func19, Tryz.ntmps19
 go_wp2_with fail
 refine (sphragisref09_Round.calls k A c l q.x q.y q.sq L er _ C0.out hcc HCL0.out).mono ?_
 rintro e wb ⟨v7, rfl, hR7, hb7⟩
 obtain ⟨AL, cL, rfl⟩ := Kd.R_slice hR7
 have HX := Aside0.mk (boxc_below X0.out hb7)
 have HBB := Aside0.mk (below_call B0.out hb7)
 have HCL := Aside0.mk (Kd.R_reads' hR7).2.2
 have HR7 := Aside0.mk hR7
 have HHB := Aside0.mk hb7
 have hmx := HCL.out.2.1
 clear hR7 hb7 x0 x1 x2 x3 x4 x5 x6 x7 x8 x9 x10
 have x10 := boxc_cell HX.out 10
 go_wp2_with fail
 go_loopw [6, 7] (fun ov jv V => ∃ j : Nat, jv = .int .i64 (j : Int) ∧ j ≤ L.length ∧ Aside0 (Kd.R k37 37 V wb.heap.size (fun _ => True) ov ((L.take j).filter (keepB q))) ∧ Aside0 (Below wb.heap.size wb V)) (fun _ jv _ => L.length - (intOf jv).toNat)
 case atStart => exact ⟨0, rfl, Nat.zero_le _, ⟨by rw [List.take_zero]; exact Kd.R_nil _ _ _ _ _⟩, ⟨Below.refl _ _⟩⟩
 case round =>
  obtain ⟨j, rfl, hj, hO, hB⟩ := hrel
  by_cases hj2 : j < L.length
  ·obtain ⟨ad, e, r0, r1, r2, r3⟩ := at_T37 HCL.out (j : Int) (by omega) (by omega)
   subst e
   simp only [Int.toNat_natCast] at r0 r1 r2 r3
   have hrn : rd_T37 L (j : Int) = L[j] := by unfold rd_T37; simp [List.getD, hj2]
   have hget : L.take (j + 1) = L.take j ++ [rd_T37 L (j : Int)] := by rw [hrn]; exact List.take_succ_eq_append_getElem hj2
   generalize rd_T37 L (j : Int) = r at hget r0 r1 r2 r3
   have HGET := Aside0.mk hget
   have hjn : 0 ≤ (j : Int) := Int.natCast_nonneg j
   have HX9 := Aside0.mk (blk_drew (boxc_below HX.out hB.out))
   have n1_ := Aside0.mk (Kd.R_drew hO.out)
   have n4_ := Aside0.mk (below_drew1 hB.out)
   have hrm : ∀ {p : Addr} {v : Value}, wb.cell? p = some v → wr.drew.cell? p = some v := fun h => (n4_.out.cell (World.block_lt_of_cell? wb _ h)).trans h
   replace r0 := hrm r0
   replace r1 := hrm r1
   replace r2 := hrm r2
   replace r3 := hrm r3
   clear hrn hget hO hB hrm
   go_wp2_with fail
   refine start_ (n := 13) (S := fun w' => w'.cell? ⟨w.heap.size, 9, none⟩ = some (.int .u64 q.after) ∧ w'.cell? ⟨w.heap.size, 10, none⟩ = some (.bool true) ∧ w'.cell? (ad.add (j * 4)) = some (.int .u64 r.f0)) (ds := []) #[false, false, false, false, false, false, false, false, false, false, false, false, false] (by kernel_rfl) rfl rfl ⟨(blk_cell HX9.out 9).trans rfl, (blk_cell HX9.out 10).trans rfl, r0⟩ (fun hHeld => ?_); refine with_tabW asked_tab14 asked_bits14 (fun HT_ HW_ => ?_)
   generalize wr.drew = w5 at HX9 n1_ n4_ r0 r1 r2 r3 hHeld ⊢
   refine pA 0 HT_ ?_
   refine tA 1 HT_ HW_ ?_
   refine pA 2 HT_ ?_
   refine pA 3 HT_ ?_
   refine pA 4 HT_ ?_
   refine pA 5 HT_ ?_
   refine pA 6 HT_ ?_
   refine pA 7 HT_ ?_
   refine tA 8 HT_ HW_ ?_
   refine pA 9 HT_ ?_
   refine tA 10 HT_ HW_ ?_
   refine pA 11 HT_ ?_
   refine pA 12 HT_ ?_
   refine done_ (done_of HT_.out (by kernel_rfl)) ?_
   clear HT_ HW_ hHeld
   have HO := n1_
   have HB := n4_
   have HFL := Aside0.mk (show ((L.take j).filter (keepB q)).length ≤ 1000 by have := List.length_filter_le (keepB q) (L.take j); rw [List.length_take] at this; omega)
   clear n1_ n4_
   by_cases hk : q.after < r.f0
   ·have hkd : decide (q.after < r.f0) = true := decide_eq_true hk
    have HKP := Aside0.mk (show (L.take (j + 1)).filter (keepB q) = (L.take j).filter (keepB q) ++ [r] by rw [HGET.out, List.filter_append, show [r].filter (keepB q) = [r] by simp [keepB, hk]])
    go_wp2_with ((with_reducible refine gate_builtin (b := .append) (xs := #[.tmp 66, .tmp 71]) rfl ?_); at_builtin; refine Kd.R_append k37 (w0 := wb) wb.heap.size rfl (.tmp 66) (.tmp 71) 22 37 (.agg #[(.int .u64 0), (.int .u32 0), (.int .u32 0), (.string ⟨#[]⟩)]) 32 rfl Tryz.underlying22 info37 rfl (by decide) (by omega) u6 ((L.take j).filter (keepB q)) r [.int .u64 r.f0, .int .u32 r.f1, .int .u32 r.f2, .string r.f3] (fun _ => True) (fun _ => False) rfl rfl ?aP (fun _ hk => hk.elim) ?aF ?aO ?aB ?aS ?aL ?_; (case aP => exact k37_mkM _ _ _ r); (case aB => exact HB.out); (case aF => exact (fun _ _ => trivial)); (case aO => exact HO.out); (case aS => exact HB.out.size); (case aL => have := HFL.out; omega); intro v9 w9 ho hb hg hat; have HO9 := Aside0.mk ho; have HB9 := Aside0.mk hb; clear ho hb hg hat)
    go_roundw
    case rel => exact ⟨j + 1, by go_num, by omega, ⟨by rw [HKP.out]; exact HO9.out⟩, HB9⟩
    case measure => simp [intOf]; omega
   ·have hkd : decide (q.after < r.f0) = false := decide_eq_false hk
    have HKP := Aside0.mk (show (L.take (j + 1)).filter (keepB q) = (L.take j).filter (keepB q) by rw [HGET.out, List.filter_append, show [r].filter (keepB q) = [] by simp [keepB, hk, HFR.out], List.append_nil])
    have hk' : r.f0 ≤ q.after := by omega
    go_wp2_with fail
    go_roundw
    case rel => exact ⟨j + 1, by go_num, by omega, ⟨by rw [HKP.out]; exact HO.out⟩, HB⟩
    case measure => simp [intOf]; omega
  ·obtain rfl : j = L.length := by omega
   have hO2 := hO.out
   rw [List.take_length] at hO2
   have HO2 := Aside0.mk hO2
   have HB2 := Aside0.mk (below_call HBB.out hB.out)
   clear hO hO2 hB
   go_wp2
   go_ret
   exact ⟨_, rfl, Kd.R_lower HO2.out HBB.out.size, HB2.out⟩
set_option maxRecDepth 100000 in
set_option maxHeartbeats 8000000 in
theorem asked_2F (k : Nat) (q : Q11) (hf : q.from_ = false) (A : Option Addr) (c : Nat) (l : List Row) (L : List Row) (er : Int) (hL : L.length ≤ 1000) (w : World) (hC : Kd.C k37 w A l.length l) (hcc : l.length ≤ c) (hcall : sphragisref09_Round.f k l q.x q.y q.sq = some (L, er)) (h4 : q.kind = 2) :
  Calls Tryz.prog 19 #[.slice A l.length c, .agg (encQ q)] w fun e w' => ∃ v, e = .returned v ∧ Kd.R k37 37 w' w.heap.size (fun _ => True) v (L.filter (keepB q)) ∧ Below w.heap.size w w' := by
 have HFR := Aside0.mk hf
 obtain ⟨w0, hw0⟩ : ∃ w0, w.alloc (.cells #[.int .i64 q.kind, .int .u32 q.b0, .int .u32 q.b1, .int .u32 q.b2, .int .u32 q.b3, .int .u32 q.x, .int .u32 q.y, .int .u64 q.sq, .int .i64 q.k, .int .u64 q.after, .bool false] 28) = w0 := ⟨_, rfl⟩
 have X0 := Aside0.mk (show w0.heap[w.heap.size]? = some (.cells #[.int .i64 q.kind, .int .u32 q.b0, .int .u32 q.b1, .int .u32 q.b2, .int .u32 q.b3, .int .u32 q.x, .int .u32 q.y, .int .u64 q.sq, .int .i64 q.k, .int .u64 q.after, .bool false] 28 (0, 0)) by rw [← hw0]; exact boxc_new w #[.int .i64 q.kind, .int .u32 q.b0, .int .u32 q.b1, .int .u32 q.b2, .int .u32 q.b3, .int .u32 q.x, .int .u32 q.y, .int .u64 q.sq, .int .i64 q.k, .int .u64 q.after, .bool false] 28)
 have B0 := Aside0.mk (show Below w.heap.size w w0 by rw [← hw0]; exact below_alloc' (Below.refl _ w) _)
 have C0 := Aside0.mk (Kd.C_below hC B0.out)
 have e3 : (q.kind == 3) = false := beq_eq_false_iff_ne.2 (by omega)
 have e1 : (q.kind == 1) = false := beq_eq_false_iff_ne.2 (by omega)
 have e2 : (q.kind == 2) = true := beq_iff_eq.2 h4
 clear h4 hC
 unfold encQ
 rw [hf]
 clear hf
 have x0 := boxc_cell X0.out 0
 have x1 := boxc_cell X0.out 1
 have x2 := boxc_cell X0.out 2
 have x3 := boxc_cell X0.out 3
 have x4 := boxc_cell X0.out 4
 have x5 := boxc_cell X0.out 5
 have x6 := boxc_cell X0.out 6
 have x7 := boxc_cell X0.out 7
 have x8 := boxc_cell X0.out 8
 have x9 := boxc_cell X0.out 9
 have x10 := boxc_cell X0.out 10
 have HCL0 := Aside0.mk hcall
 clear hcall
 go_enter Tryz.func19, Tryz.ntmps19
 go_wp2_with fail
 refine (sphragisref09_Round.calls k A c l q.x q.y q.sq L er _ C0.out hcc HCL0.out).mono ?_
 rintro e wb ⟨v7, rfl, hR7, hb7⟩
 obtain ⟨AL, cL, rfl⟩ := Kd.R_slice hR7
 have HX := Aside0.mk (boxc_below X0.out hb7)
 have HBB := Aside0.mk (below_call B0.out hb7)
 have HCL := Aside0.mk (Kd.R_reads' hR7).2.2
 have HR7 := Aside0.mk hR7
 have HHB := Aside0.mk hb7
 have hmx := HCL.out.2.1
 clear hR7 hb7 x0 x1 x2 x3 x4 x5 x6 x7 x8 x9 x10
 have x10 := boxc_cell HX.out 10
 go_wp2_with fail
 go_loopw [6, 7] (fun ov jv V => ∃ j : Nat, jv = .int .i64 (j : Int) ∧ j ≤ L.length ∧ Aside0 (Kd.R k37 37 V wb.heap.size (fun _ => True) ov ((L.take j).filter (keepB q))) ∧ Aside0 (Below wb.heap.size wb V)) (fun _ jv _ => L.length - (intOf jv).toNat)
 case atStart => exact ⟨0, rfl, Nat.zero_le _, ⟨by rw [List.take_zero]; exact Kd.R_nil _ _ _ _ _⟩, ⟨Below.refl _ _⟩⟩
 case round =>
  obtain ⟨j, rfl, hj, hO, hB⟩ := hrel
  by_cases hj2 : j < L.length
  ·obtain ⟨ad, e, r0, r1, r2, r3⟩ := at_T37 HCL.out (j : Int) (by omega) (by omega)
   subst e
   simp only [Int.toNat_natCast] at r0 r1 r2 r3
   have hrn : rd_T37 L (j : Int) = L[j] := by unfold rd_T37; simp [List.getD, hj2]
   have hget : L.take (j + 1) = L.take j ++ [rd_T37 L (j : Int)] := by rw [hrn]; exact List.take_succ_eq_append_getElem hj2
   generalize rd_T37 L (j : Int) = r at hget r0 r1 r2 r3
   have HGET := Aside0.mk hget
   have hjn : 0 ≤ (j : Int) := Int.natCast_nonneg j
   have HX9 := Aside0.mk (blk_drew (boxc_below HX.out hB.out))
   have n1_ := Aside0.mk (Kd.R_drew hO.out)
   have n4_ := Aside0.mk (below_drew1 hB.out)
   have hrm : ∀ {p : Addr} {v : Value}, wb.cell? p = some v → wr.drew.cell? p = some v := fun h => (n4_.out.cell (World.block_lt_of_cell? wb _ h)).trans h
   replace r0 := hrm r0
   replace r1 := hrm r1
   replace r2 := hrm r2
   replace r3 := hrm r3
   clear hrn hget hO hB hrm
   go_wp2_with fail
   refine start_ (n := 13) (S := fun w' => w'.cell? ⟨w.heap.size, 9, none⟩ = some (.int .u64 q.after) ∧ w'.cell? ⟨w.heap.size, 10, none⟩ = some (.bool false) ∧ w'.cell? (ad.add (j * 4)) = some (.int .u64 r.f0)) (ds := []) #[false, false, false, false, false, false, false, false, false, false, false, false, false] (by kernel_rfl) rfl rfl ⟨(blk_cell HX9.out 9).trans rfl, (blk_cell HX9.out 10).trans rfl, r0⟩ (fun hHeld => ?_); refine with_tabW asked_tab14 asked_bits14 (fun HT_ HW_ => ?_)
   generalize wr.drew = w5 at HX9 n1_ n4_ r0 r1 r2 r3 hHeld ⊢
   refine pA 0 HT_ ?_
   refine tA 1 HT_ HW_ ?_
   refine pA 2 HT_ ?_
   refine pA 3 HT_ ?_
   refine uA 4 HT_ ?_
   refine uA 5 HT_ ?_
   refine uA 6 HT_ ?_
   refine uA 7 HT_ ?_
   refine take_ (i := 8) (N := some 61) (v := undef) (a' := ?_) #[true, true, true, true, true, true, true, true, true, false, false, false, false] rfl rfl (take_ofW HT_.out HW_.out (by kernel_rfl)) (fun _ _ _ h => h) (Or.inr ⟨by rfl, rfl⟩) hHeld ?_ ?_
   rotate_left
   ·simp only [Act.put, List.setIfInBounds_toArray, List.set_cons_zero, List.set_cons_succ, i64_w, i32_w]
    rfl
   refine uA 9 HT_ ?_
   refine take_ (i := 10) (N := some 63) (v := undef) (a' := ?_) #[true, true, true, true, true, true, true, true, true, true, true, false, false] rfl rfl (take_ofW HT_.out HW_.out (by kernel_rfl)) (fun _ _ _ h => h) (Or.inr ⟨by rfl, rfl⟩) hHeld ?_ ?_
   rotate_left
   ·simp only [Act.put, List.setIfInBounds_toArray, List.set_cons_zero, List.set_cons_succ, i64_w, i32_w]
    rfl
   refine uA 11 HT_ ?_
   refine pA 12 HT_ ?_
   refine done_ (done_of HT_.out (by kernel_rfl)) ?_
   clear HT_ HW_ hHeld
   have HO := n1_
   have HB := n4_
   have HFL := Aside0.mk (show ((L.take j).filter (keepB q)).length ≤ 1000 by have := List.length_filter_le (keepB q) (L.take j); rw [List.length_take] at this; omega)
   clear n1_ n4_
   have HKP := Aside0.mk (show (L.take (j + 1)).filter (keepB q) = (L.take j).filter (keepB q) ++ [r] by rw [HGET.out, List.filter_append, show [r].filter (keepB q) = [r] by simp [keepB, HFR.out]])
   go_wp2_with ((with_reducible refine gate_builtin (b := .append) (xs := #[.tmp 66, .tmp 71]) rfl ?_); at_builtin; refine Kd.R_append k37 (w0 := wb) wb.heap.size rfl (.tmp 66) (.tmp 71) 22 37 (.agg #[(.int .u64 0), (.int .u32 0), (.int .u32 0), (.string ⟨#[]⟩)]) 32 rfl Tryz.underlying22 info37 rfl (by decide) (by omega) u6 ((L.take j).filter (keepB q)) r [.int .u64 r.f0, .int .u32 r.f1, .int .u32 r.f2, .string r.f3] (fun _ => True) (fun _ => False) rfl rfl ?aP (fun _ hk => hk.elim) ?aF ?aO ?aB ?aS ?aL ?_; (case aP => exact k37_mkM _ _ _ r); (case aB => exact HB.out); (case aF => exact (fun _ _ => trivial)); (case aO => exact HO.out); (case aS => exact HB.out.size); (case aL => have := HFL.out; omega); intro v9 w9 ho hb hg hat; have HO9 := Aside0.mk ho; have HB9 := Aside0.mk hb; clear ho hb hg hat)
   go_roundw
   case rel => exact ⟨j + 1, by go_num, by omega, ⟨by rw [HKP.out]; exact HO9.out⟩, HB9⟩
   case measure => simp [intOf]; omega
  ·obtain rfl : j = L.length := by omega
   have hO2 := hO.out
   rw [List.take_length] at hO2
   have HO2 := Aside0.mk hO2
   have HB2 := Aside0.mk (below_call HBB.out hB.out)
   clear hO hO2 hB
   go_wp2
   go_ret
   exact ⟨_, rfl, Kd.R_lower HO2.out HBB.out.size, HB2.out⟩
set_option maxRecDepth 100000 in
set_option maxHeartbeats 8000000 in
theorem asked_3T (k : Nat) (q : Q11) (hf : q.from_ = true) (A : Option Addr) (c : Nat) (l : List Row) (L : List Row) (er : Int) (hL : L.length ≤ 1000) (w : World) (hC : Kd.C k37 w A l.length l) (hcc : l.length ≤ c) (hcall : sphragisref09_Near.f k l q.x q.y (l.length : Int) = some (L, er)) (h4 : q.kind = 3) :
  Calls Tryz.prog 19 #[.slice A l.length c, .agg (encQ q)] w fun e w' => ∃ v, e = .returned v ∧ Kd.R k37 37 w' w.heap.size (fun _ => True) v (L) ∧ Below w.heap.size w w' := by
 have HFR := Aside0.mk hf
 obtain ⟨w0, hw0⟩ : ∃ w0, w.alloc (.cells #[.int .i64 q.kind, .int .u32 q.b0, .int .u32 q.b1, .int .u32 q.b2, .int .u32 q.b3, .int .u32 q.x, .int .u32 q.y, .int .u64 q.sq, .int .i64 q.k, .int .u64 q.after, .bool true] 28) = w0 := ⟨_, rfl⟩
 have X0 := Aside0.mk (show w0.heap[w.heap.size]? = some (.cells #[.int .i64 q.kind, .int .u32 q.b0, .int .u32 q.b1, .int .u32 q.b2, .int .u32 q.b3, .int .u32 q.x, .int .u32 q.y, .int .u64 q.sq, .int .i64 q.k, .int .u64 q.after, .bool true] 28 (0, 0)) by rw [← hw0]; exact boxc_new w #[.int .i64 q.kind, .int .u32 q.b0, .int .u32 q.b1, .int .u32 q.b2, .int .u32 q.b3, .int .u32 q.x, .int .u32 q.y, .int .u64 q.sq, .int .i64 q.k, .int .u64 q.after, .bool true] 28)
 have B0 := Aside0.mk (show Below w.heap.size w w0 by rw [← hw0]; exact below_alloc' (Below.refl _ w) _)
 have C0 := Aside0.mk (Kd.C_below hC B0.out)
 have e3 : (q.kind == 3) = true := beq_iff_eq.2 h4
 clear h4 hC
 unfold encQ
 rw [hf]
 clear hf
 have x0 := boxc_cell X0.out 0
 have x1 := boxc_cell X0.out 1
 have x2 := boxc_cell X0.out 2
 have x3 := boxc_cell X0.out 3
 have x4 := boxc_cell X0.out 4
 have x5 := boxc_cell X0.out 5
 have x6 := boxc_cell X0.out 6
 have x7 := boxc_cell X0.out 7
 have x8 := boxc_cell X0.out 8
 have x9 := boxc_cell X0.out 9
 have x10 := boxc_cell X0.out 10
 have HCL0 := Aside0.mk hcall
 clear hcall
 go_enter Tryz.func19, Tryz.ntmps19
 go_wp2_with fail
 refine (sphragisref09_Near.calls k A c l q.x q.y (l.length : Int) L er _ C0.out hcc HCL0.out).mono ?_
 rintro e wb ⟨v7, rfl, hR7, hb7⟩
 obtain ⟨AL, cL, rfl⟩ := Kd.R_slice hR7
 have HX := Aside0.mk (boxc_below X0.out hb7)
 have HBB := Aside0.mk (below_call B0.out hb7)
 have HCL := Aside0.mk (Kd.R_reads' hR7).2.2
 have HR7 := Aside0.mk hR7
 have HHB := Aside0.mk hb7
 have hmx := HCL.out.2.1
 clear hR7 hb7 x0 x1 x2 x3 x4 x5 x6 x7 x8 x9 x10
 go_wp2
 go_ret
 exact ⟨_, rfl, Kd.R_lower HR7.out B0.out.size, HBB.out⟩
set_option maxRecDepth 100000 in
set_option maxHeartbeats 8000000 in
theorem asked_3F (k : Nat) (q : Q11) (hf : q.from_ = false) (A : Option Addr) (c : Nat) (l : List Row) (L : List Row) (er : Int) (hL : L.length ≤ 1000) (w : World) (hC : Kd.C k37 w A l.length l) (hcc : l.length ≤ c) (hcall : sphragisref09_Near.f k l q.x q.y (l.length : Int) = some (L, er)) (h4 : q.kind = 3) :
  Calls Tryz.prog 19 #[.slice A l.length c, .agg (encQ q)] w fun e w' => ∃ v, e = .returned v ∧ Kd.R k37 37 w' w.heap.size (fun _ => True) v (L) ∧ Below w.heap.size w w' := by
 have HFR := Aside0.mk hf
 obtain ⟨w0, hw0⟩ : ∃ w0, w.alloc (.cells #[.int .i64 q.kind, .int .u32 q.b0, .int .u32 q.b1, .int .u32 q.b2, .int .u32 q.b3, .int .u32 q.x, .int .u32 q.y, .int .u64 q.sq, .int .i64 q.k, .int .u64 q.after, .bool false] 28) = w0 := ⟨_, rfl⟩
 have X0 := Aside0.mk (show w0.heap[w.heap.size]? = some (.cells #[.int .i64 q.kind, .int .u32 q.b0, .int .u32 q.b1, .int .u32 q.b2, .int .u32 q.b3, .int .u32 q.x, .int .u32 q.y, .int .u64 q.sq, .int .i64 q.k, .int .u64 q.after, .bool false] 28 (0, 0)) by rw [← hw0]; exact boxc_new w #[.int .i64 q.kind, .int .u32 q.b0, .int .u32 q.b1, .int .u32 q.b2, .int .u32 q.b3, .int .u32 q.x, .int .u32 q.y, .int .u64 q.sq, .int .i64 q.k, .int .u64 q.after, .bool false] 28)
 have B0 := Aside0.mk (show Below w.heap.size w w0 by rw [← hw0]; exact below_alloc' (Below.refl _ w) _)
 have C0 := Aside0.mk (Kd.C_below hC B0.out)
 have e3 : (q.kind == 3) = true := beq_iff_eq.2 h4
 clear h4 hC
 unfold encQ
 rw [hf]
 clear hf
 have x0 := boxc_cell X0.out 0
 have x1 := boxc_cell X0.out 1
 have x2 := boxc_cell X0.out 2
 have x3 := boxc_cell X0.out 3
 have x4 := boxc_cell X0.out 4
 have x5 := boxc_cell X0.out 5
 have x6 := boxc_cell X0.out 6
 have x7 := boxc_cell X0.out 7
 have x8 := boxc_cell X0.out 8
 have x9 := boxc_cell X0.out 9
 have x10 := boxc_cell X0.out 10
 have HCL0 := Aside0.mk hcall
 clear hcall
 go_enter Tryz.func19, Tryz.ntmps19
 go_wp2_with fail
 refine (sphragisref09_Near.calls k A c l q.x q.y (l.length : Int) L er _ C0.out hcc HCL0.out).mono ?_
 rintro e wb ⟨v7, rfl, hR7, hb7⟩
 obtain ⟨AL, cL, rfl⟩ := Kd.R_slice hR7
 have HX := Aside0.mk (boxc_below X0.out hb7)
 have HBB := Aside0.mk (below_call B0.out hb7)
 have HCL := Aside0.mk (Kd.R_reads' hR7).2.2
 have HR7 := Aside0.mk hR7
 have HHB := Aside0.mk hb7
 have hmx := HCL.out.2.1
 clear hR7 hb7 x0 x1 x2 x3 x4 x5 x6 x7 x8 x9 x10
 go_wp2
 go_ret
 exact ⟨_, rfl, Kd.R_lower HR7.out B0.out.size, HBB.out⟩
end Go.Proofs.YtoimgijhekahhaaGreat.P

/- Layer 11, find: what a kind of query asks a tree for (find.kinds$1 .. $4): walked. -/
import Derived.Test.YtoimgijhekahhaaGreatFindD
import Derived.Test.YtoimgijhekahhaaGreatStep
import Derived.Test.YtoimgijhekahhaaGreatNearD
import Derived.Test.YtoimgijhekahhaaGreatPx801
import Derived.Test.YtoimgijhekahhaaGreatPx9
import Derived.Test.YtoimgijhekahhaaGreatPx901
namespace Go.Proofs.YtoimgijhekahhaaGreat.P
open Go.RowKit Go.Proofs.YtoimgijhekahhaaGreatOwn Go.Proofs.YtoimgijhekahhaaGreatW.PrintWords Go.Proofs.YtoimgijhekahhaaGreatW.PrintLast Go.Proofs.YtoimgijhekahhaaGreatW.PrintMore
set_option linter.unusedVariables false
set_option linter.unusedSimpArgs false
attribute [local go_sem] max2_int min2_int max_two min_two
def kindR (k : Nat) (n : Nod) (q : Q11) : Option (List S37) :=
 if q.kind = 1 then (quad_Window.f k n.1 n.2.1 n.2.2.1 n.2.2.2.1 n.2.2.2.2 q.b0 q.b1 q.b2 q.b3).map (·.1) else if q.kind = 2 then (quad_Round.f k n.1 n.2.1 n.2.2.1 n.2.2.2.1 n.2.2.2.2 q.x q.y q.sq).map (·.1)
 else if q.kind = 3 then (quad_Near.f k n.1 n.2.1 n.2.2.1 n.2.2.2.1 n.2.2.2.2 q.x q.y (wrap64 (q.k + 1))).map (·.1) else quad_Rows.f k n.1 n.2.1 n.2.2.1 n.2.2.2.1 n.2.2.2.2
abbrev nodeV (n : Nod) (A3 : Option Addr) (c3 : Nat) (A4 : Option Addr) (c4 : Nat) : Array Value := #[.int .u32 n.1, .int .u32 n.2.1, .int .i64 n.2.2.1, .slice A3 n.2.2.2.1.length c3, .slice A4 n.2.2.2.2.length c4]
structure TreeAt (w : World) (n : Nod) (A3 : Option Addr) (c3 : Nat) (A4 : Option Addr) (c4 : Nat) : Prop where
 h3 : n.2.2.2.1.length ≤ c3
 C3 : Kd.C k37 w A3 n.2.2.2.1.length n.2.2.2.1
 h4 : n.2.2.2.2.length ≤ c4
 C4 : Kd.C k44 w A4 n.2.2.2.2.length n.2.2.2.2
theorem TreeAt.below {w w1 : World} {n : Nod} {A3 : Option Addr} {c3 : Nat} {A4 : Option Addr} {c4 : Nat} (h : TreeAt w n A3 c3 A4 c4) (hb : Below w.heap.size w w1) : TreeAt w1 n A3 c3 A4 c4 := ⟨h.h3, Kd.C_below h.C3 hb, h.h4, Kd.C_below h.C4 hb⟩
abbrev RowsPost (w : World) (L : List S37) (e : Ending) (w' : World) : Prop := ∃ v, e = .returned v ∧ Kd.R k37 37 w' w.heap.size (fun _ => True) v L ∧ Below w.heap.size w w'
set_option maxRecDepth 100000 in
set_option maxHeartbeats 4000000 in
theorem kind1_calls (k : Nat) (q : Q11) (n : Nod) (A3 : Option Addr) (c3 : Nat) (A4 : Option Addr) (c4 : Nat) (L : List S37) (e0 : Int) (w : World) (hT : TreeAt w n A3 c3 A4 c4) (h : quad_Window.f k n.1 n.2.1 n.2.2.1 n.2.2.2.1 n.2.2.2.2 q.b0 q.b1 q.b2 q.b3 = some (L, e0)) :
  Calls Tryz.prog 31 #[.agg (nodeV n A3 c3 A4 c4), .agg (encQ q)] w (RowsPost w L) := by
 have HT := Aside0.mk hT
 have HQ := Aside0.mk h
 clear hT h
 unfold encQ nodeV
 have hu := Tryz.underlying44
 go_enter Tryz.func31, Tryz.ntmps31
 go_wp2_with fail
 have hb0 := Aside0.mk (below_alloc' (below_alloc' (Below.refl _ w) (.cells #[.int .u32 n.1, .int .u32 n.2.1, .int .i64 n.2.2.1, .slice A3 n.2.2.2.1.length c3, .slice A4 n.2.2.2.2.length c4] 44)) (.cells #[.int .i64 q.kind, .int .u32 q.b0, .int .u32 q.b1, .int .u32 q.b2, .int .u32 q.b3, .int .u32 q.x, .int .u32 q.y, .int .u64 q.sq, .int .i64 q.k, .int .u64 q.after, .bool q.from_] 28))
 have HT1 := Aside0.mk (HT.out.below hb0.out)
 refine (quad_Window.calls k n.1 n.2.1 n.2.2.1 A3 c3 n.2.2.2.1 A4 c4 n.2.2.2.2 q.b0 q.b1 q.b2 q.b3 L e0 _ HT1.out.C3 HT1.out.h3 HT1.out.C4 HT1.out.h4 HQ.out).mono ?_
 rintro e w5 ⟨v5, rfl, hR5, hb5⟩
 have HR5 := Aside0.mk hR5
 have HB5 := Aside0.mk hb5
 clear hR5 hb5
 obtain ⟨A5, c5, rfl⟩ := Kd.R_slice HR5.out
 go_wp2
 go_ret
 exact ⟨_, rfl, Kd.R_lower HR5.out hb0.out.size, below_call hb0.out HB5.out⟩
set_option maxRecDepth 100000 in
set_option maxHeartbeats 4000000 in
theorem kind2_calls (k : Nat) (q : Q11) (n : Nod) (A3 : Option Addr) (c3 : Nat) (A4 : Option Addr) (c4 : Nat) (L : List S37) (e0 : Int) (w : World) (hT : TreeAt w n A3 c3 A4 c4) (h : quad_Round.f k n.1 n.2.1 n.2.2.1 n.2.2.2.1 n.2.2.2.2 q.x q.y q.sq = some (L, e0)) :
  Calls Tryz.prog 33 #[.agg (nodeV n A3 c3 A4 c4), .agg (encQ q)] w (RowsPost w L) := by
 have HT := Aside0.mk hT
 have HQ := Aside0.mk h
 clear hT h
 unfold encQ nodeV
 have hu := Tryz.underlying44
 go_enter Tryz.func33, Tryz.ntmps33
 go_wp2_with fail
 have hb0 := Aside0.mk (below_alloc' (below_alloc' (Below.refl _ w) (.cells #[.int .u32 n.1, .int .u32 n.2.1, .int .i64 n.2.2.1, .slice A3 n.2.2.2.1.length c3, .slice A4 n.2.2.2.2.length c4] 44)) (.cells #[.int .i64 q.kind, .int .u32 q.b0, .int .u32 q.b1, .int .u32 q.b2, .int .u32 q.b3, .int .u32 q.x, .int .u32 q.y, .int .u64 q.sq, .int .i64 q.k, .int .u64 q.after, .bool q.from_] 28))
 have HT1 := Aside0.mk (HT.out.below hb0.out)
 refine (quad_Round.calls k n.1 n.2.1 n.2.2.1 A3 c3 n.2.2.2.1 A4 c4 n.2.2.2.2 q.x q.y q.sq L e0 _ HT1.out.C3 HT1.out.h3 HT1.out.C4 HT1.out.h4 HQ.out).mono ?_
 rintro e w5 ⟨v5, rfl, hR5, hb5⟩
 have HR5 := Aside0.mk hR5
 have HB5 := Aside0.mk hb5
 clear hR5 hb5
 obtain ⟨A5, c5, rfl⟩ := Kd.R_slice HR5.out
 go_wp2
 go_ret
 exact ⟨_, rfl, Kd.R_lower HR5.out hb0.out.size, below_call hb0.out HB5.out⟩
set_option maxRecDepth 100000 in
set_option maxHeartbeats 4000000 in
theorem kind3_calls (k : Nat) (q : Q11) (n : Nod) (A3 : Option Addr) (c3 : Nat) (A4 : Option Addr) (c4 : Nat) (L : List S37) (e0 : Int) (w : World) (hT : TreeAt w n A3 c3 A4 c4) (h : quad_Near.f k n.1 n.2.1 n.2.2.1 n.2.2.2.1 n.2.2.2.2 q.x q.y (wrap64 (q.k + 1)) = some (L, e0)) :
  Calls Tryz.prog 35 #[.agg (nodeV n A3 c3 A4 c4), .agg (encQ q)] w (RowsPost w L) := by
 have HT := Aside0.mk hT
 have HQ := Aside0.mk h
 clear hT h
 unfold encQ nodeV
 have hu := Tryz.underlying44
 go_enter Tryz.func35, Tryz.ntmps35
 go_wp2_with fail
 have hb0 := Aside0.mk (below_alloc' (below_alloc' (Below.refl _ w) (.cells #[.int .u32 n.1, .int .u32 n.2.1, .int .i64 n.2.2.1, .slice A3 n.2.2.2.1.length c3, .slice A4 n.2.2.2.2.length c4] 44)) (.cells #[.int .i64 q.kind, .int .u32 q.b0, .int .u32 q.b1, .int .u32 q.b2, .int .u32 q.b3, .int .u32 q.x, .int .u32 q.y, .int .u64 q.sq, .int .i64 q.k, .int .u64 q.after, .bool q.from_] 28))
 have HT1 := Aside0.mk (HT.out.below hb0.out)
 refine (quad_Near.calls k n.1 n.2.1 n.2.2.1 A3 c3 n.2.2.2.1 A4 c4 n.2.2.2.2 q.x q.y (wrap64 (q.k + 1)) L e0 _ HT1.out.C3 HT1.out.h3 HT1.out.C4 HT1.out.h4 HQ.out).mono ?_
 rintro e w5 ⟨v5, rfl, hR5, hb5⟩
 have HR5 := Aside0.mk hR5
 have HB5 := Aside0.mk hb5
 clear hR5 hb5
 obtain ⟨A5, c5, rfl⟩ := Kd.R_slice HR5.out
 go_wp2
 go_ret
 exact ⟨_, rfl, Kd.R_lower HR5.out hb0.out.size, below_call hb0.out HB5.out⟩
set_option maxRecDepth 100000 in
set_option maxHeartbeats 4000000 in
theorem kind4_calls (k : Nat) (q : Q11) (n : Nod) (A3 : Option Addr) (c3 : Nat) (A4 : Option Addr) (c4 : Nat) (L : List S37) (w : World) (hT : TreeAt w n A3 c3 A4 c4) (h : quad_Rows.f k n.1 n.2.1 n.2.2.1 n.2.2.2.1 n.2.2.2.2 = some L) :
  Calls Tryz.prog 37 #[.agg (nodeV n A3 c3 A4 c4), .agg (encQ q)] w (RowsPost w L) := by
 have HT := Aside0.mk hT
 have HQ := Aside0.mk h
 clear hT h
 unfold encQ nodeV
 have hu := Tryz.underlying44
 go_enter Tryz.func37, Tryz.ntmps37
 go_wp2_with fail
 have hb0 := Aside0.mk (below_alloc' (below_alloc' (Below.refl _ w) (.cells #[.int .u32 n.1, .int .u32 n.2.1, .int .i64 n.2.2.1, .slice A3 n.2.2.2.1.length c3, .slice A4 n.2.2.2.2.length c4] 44)) (.cells #[.int .i64 q.kind, .int .u32 q.b0, .int .u32 q.b1, .int .u32 q.b2, .int .u32 q.b3, .int .u32 q.x, .int .u32 q.y, .int .u64 q.sq, .int .i64 q.k, .int .u64 q.after, .bool q.from_] 28))
 have HT1 := Aside0.mk (HT.out.below hb0.out)
 refine (quad_Rows.calls k n.1 n.2.1 n.2.2.1 A3 c3 n.2.2.2.1 A4 c4 n.2.2.2.2 L _ HT1.out.C3 HT1.out.h3 HT1.out.C4 HT1.out.h4 HQ.out).mono ?_
 rintro e w5 ⟨v5, rfl, hR5, hb5⟩
 have HR5 := Aside0.mk hR5
 have HB5 := Aside0.mk hb5
 clear hR5 hb5
 obtain ⟨A5, c5, rfl⟩ := Kd.R_slice HR5.out
 go_wp2
 go_ret
 exact ⟨_, rfl, Kd.R_lower HR5.out hb0.out.size, below_call hb0.out HB5.out⟩
end Go.Proofs.YtoimgijhekahhaaGreat.P
namespace Go.Proofs.YtoimgijhekahhaaGreat.P
open Go.RowKit Go.Proofs.YtoimgijhekahhaaGreatOwn Go.Proofs.YtoimgijhekahhaaGreatW.PrintWords Go.Proofs.YtoimgijhekahhaaGreatW.PrintLast Go.Proofs.YtoimgijhekahhaaGreatW.PrintMore
set_option linter.unusedVariables false
set_option linter.unusedSimpArgs false
attribute [local go_sem] max2_int max_two min_two
def leftQ (q : Q11) (L : List S37) : List S37 := if q.from_ = true ∧ q.kind ≠ 3 then L.filter (fun r => !goneB q.after r) else L
def cutQ (q : Q11) (L : List S37) : List S37 × Bool := ((leftQ q L).take q.k.toNat, decide (q.k < ((leftQ q L).length : Int)))
theorem kind_any (k : Nat) (q : Q11) (n : Nod) (A3 : Option Addr) (c3 : Nat) (A4 : Option Addr) (c4 : Nat) (L : List S37) (hk : 1 ≤ q.kind ∧ q.kind ≤ 4) (h : kindR k n q = some L) :
  ∃ f : Nat, kindV q.kind = .func (.func f) #[] #[] ∧ (∀ (args : Array Value) (w : World), (callFunc f args).run Tryz.prog w = .ok (.enter f args) w) ∧ ∀ w, TreeAt w n A3 c3 A4 c4 → Calls Tryz.prog f #[.agg (nodeV n A3 c3 A4 c4), .agg (encQ q)] w (RowsPost w L) := by
 unfold kindR at h
 unfold kindV
 by_cases h1 : q.kind = 1
 ·rw [if_pos h1] at h
  obtain ⟨⟨a, e⟩, ha, rfl⟩ := Option.map_eq_some_iff.1 h
  exact ⟨_, by rw [if_pos h1], enters_of Tryz.func31 (by kernel_rfl) rfl, fun w hT => kind1_calls k q n A3 c3 A4 c4 a e w hT ha⟩
 ·rw [if_neg h1] at h
  by_cases h2 : q.kind = 2
  ·rw [if_pos h2] at h
   obtain ⟨⟨a, e⟩, ha, rfl⟩ := Option.map_eq_some_iff.1 h
   exact ⟨_, by rw [if_neg h1, if_pos h2], enters_of Tryz.func33 (by kernel_rfl) rfl, fun w hT => kind2_calls k q n A3 c3 A4 c4 a e w hT ha⟩
  ·rw [if_neg h2] at h
   by_cases h3 : q.kind = 3
   ·rw [if_pos h3] at h
    obtain ⟨⟨a, e⟩, ha, rfl⟩ := Option.map_eq_some_iff.1 h
    exact ⟨_, by rw [if_neg h1, if_neg h2, if_pos h3], enters_of Tryz.func35 (by kernel_rfl) rfl, fun w hT => kind3_calls k q n A3 c3 A4 c4 a e w hT ha⟩
   ·rw [if_neg h3] at h
    exact ⟨_, by rw [if_neg h1, if_neg h2, if_neg h3, if_pos (by omega)], enters_of Tryz.func37 (by kernel_rfl) rfl, fun w hT => kind4_calls k q n A3 c3 A4 c4 L w hT h⟩
def ask_T1 : Bool × List (List Nat × List Nat) := (true, [([], []), ([], []), ([1], [1]), ([0, 2], [0, 2]), ([], []), ([], []), ([3, 4, 5, 0], [3, 4, 5]), ([6, 6, 0, 1, 2, 3, 4, 5, 6], [6])])
def ask_B1 : List Nat := [0, 0, 2, 7, 0, 0, 63, 127]
theorem ask_tab1 : rtab .any (opsOf Tryz.f13 1) = ask_T1 := by kernel_rfl
theorem ask_bits1 : waitsOk ask_T1.2 ask_B1 = true := by kernel_rfl
set_option maxRecDepth 100000 in
set_option maxHeartbeats 8000000 in
theorem ask_calls (k : Nat) (q : Q11) (n : Nod) (A3 : Option Addr) (c3 : Nat) (A4 : Option Addr) (c4 : Nat) (L : List S37) (w : World) (hT : TreeAt w n A3 c3 A4 c4) (hk : 1 ≤ q.kind ∧ q.kind ≤ 4) (h0 : 0 ≤ q.k) (h : kindR k n q = some L) :
  Calls Tryz.prog 13 #[.agg (nodeV n A3 c3 A4 c4), .agg (encQ q)] w fun e w' => ∃ v, e = .returned (.tuple #[v, .bool (cutQ q L).2]) ∧ Kd.R k37 37 w' w.heap.size (fun _ => True) v (cutQ q L).1 ∧ Below w.heap.size w w' := by
 obtain ⟨f, hkv, hen, hck⟩ := kind_any k q n A3 c3 A4 c4 L hk h
 have HT := Aside0.mk hT
 have HKV := Aside0.mk hkv
 have HEN := Aside0.mk hen
 have HCK := Aside0.mk hck
 have H0 := Aside0.mk h0
 clear hT hkv hen hck h0 h
 have hu := Tryz.underlying44
 have hX := Aside0.mk (show ((w.alloc (.cells #[.int .u32 n.1, .int .u32 n.2.1, .int .i64 n.2.2.1, .slice A3 n.2.2.2.1.length c3, .slice A4 n.2.2.2.2.length c4] 44)).alloc (.cells #[.int .i64 q.kind, .int .u32 q.b0, .int .u32 q.b1, .int .u32 q.b2, .int .u32 q.b3, .int .u32 q.x, .int .u32 q.y, .int .u64 q.sq, .int .i64 q.k, .int .u64 q.after, .bool q.from_] 28)).drew.heap[w.heap.size + 1]? = some (.cells #[.int .i64 q.kind, .int .u32 q.b0, .int .u32 q.b1, .int .u32 q.b2, .int .u32 q.b3, .int .u32 q.x, .int .u32 q.y, .int .u64 q.sq, .int .i64 q.k, .int .u64 q.after, .bool q.from_] 28 (0, 0)) from blk_drew (by have := boxc_new (w.alloc (.cells #[.int .u32 n.1, .int .u32 n.2.1, .int .i64 n.2.2.1, .slice A3 n.2.2.2.1.length c3, .slice A4 n.2.2.2.2.length c4] 44)) #[.int .i64 q.kind, .int .u32 q.b0, .int .u32 q.b1, .int .u32 q.b2, .int .u32 q.b3, .int .u32 q.x, .int .u32 q.y, .int .u64 q.sq, .int .i64 q.k, .int .u64 q.after, .bool q.from_] 28; rw [World.size_alloc] at this; exact this))
 have hN := Aside0.mk (blk_drew (boxc_alloc (boxc_new w #[.int .u32 n.1, .int .u32 n.2.1, .int .i64 n.2.2.1, .slice A3 n.2.2.2.1.length c3, .slice A4 n.2.2.2.2.length c4] 44) (.cells #[.int .i64 q.kind, .int .u32 q.b0, .int .u32 q.b1, .int .u32 q.b2, .int .u32 q.b3, .int .u32 q.x, .int .u32 q.y, .int .u64 q.sq, .int .i64 q.k, .int .u64 q.after, .bool q.from_] 28)))
 have hB := Aside0.mk (below_drew1 (below_alloc' (below_alloc' (Below.refl _ w) (.cells #[.int .u32 n.1, .int .u32 n.2.1, .int .i64 n.2.2.1, .slice A3 n.2.2.2.1.length c3, .slice A4 n.2.2.2.2.length c4] 44)) (.cells #[.int .i64 q.kind, .int .u32 q.b0, .int .u32 q.b1, .int .u32 q.b2, .int .u32 q.b3, .int .u32 q.x, .int .u32 q.y, .int .u64 q.sq, .int .i64 q.k, .int .u64 q.after, .bool q.from_] 28)))
 unfold encQ nodeV
 go_enter Tryz.func13, Tryz.ntmps13
 go_wp2_with fail
 refine start_ (n := 8) (S := fun w' => w'.cell? ⟨w.heap.size, 0, none⟩ = some (.int .u32 n.1) ∧ w'.cell? ⟨w.heap.size, 1, none⟩ = some (.int .u32 n.2.1) ∧ w'.cell? ⟨w.heap.size, 2, none⟩ = some (.int .i64 n.2.2.1) ∧ w'.cell? ⟨w.heap.size, 3, none⟩ = some (.slice A3 n.2.2.2.1.length c3) ∧ w'.cell? ⟨w.heap.size, 4, none⟩ = some (.slice A4 n.2.2.2.2.length c4) ∧ w'.cell? ⟨w.heap.size + 1, 0, none⟩ = some (.int .i64 q.kind) ∧ w'.cell? ⟨w.heap.size + 1, 1, none⟩ = some (.int .u32 q.b0) ∧ w'.cell? ⟨w.heap.size + 1, 2, none⟩ = some (.int .u32 q.b1) ∧ w'.cell? ⟨w.heap.size + 1, 3, none⟩ = some (.int .u32 q.b2) ∧ w'.cell? ⟨w.heap.size + 1, 4, none⟩ = some (.int .u32 q.b3) ∧ w'.cell? ⟨w.heap.size + 1, 5, none⟩ = some (.int .u32 q.x) ∧ w'.cell? ⟨w.heap.size + 1, 6, none⟩ = some (.int .u32 q.y) ∧ w'.cell? ⟨w.heap.size + 1, 7, none⟩ = some (.int .u64 q.sq) ∧ w'.cell? ⟨w.heap.size + 1, 8, none⟩ = some (.int .i64 q.k) ∧ w'.cell? ⟨w.heap.size + 1, 9, none⟩ = some (.int .u64 q.after) ∧ w'.cell? ⟨w.heap.size + 1, 10, none⟩ = some (.bool q.from_)) (ds := []) #[false, false, false, false, false, false, false, false] (by kernel_rfl) rfl rfl ⟨(blk_cell hN.out 0).trans rfl, (blk_cell hN.out 1).trans rfl, (blk_cell hN.out 2).trans rfl, (blk_cell hN.out 3).trans rfl, (blk_cell hN.out 4).trans rfl, (blk_cell hX.out 0).trans rfl, (blk_cell hX.out 1).trans rfl, (blk_cell hX.out 2).trans rfl, (blk_cell hX.out 3).trans rfl, (blk_cell hX.out 4).trans rfl, (blk_cell hX.out 5).trans rfl, (blk_cell hX.out 6).trans rfl, (blk_cell hX.out 7).trans rfl, (blk_cell hX.out 8).trans rfl, (blk_cell hX.out 9).trans rfl, (blk_cell hX.out 10).trans rfl⟩ (fun hHeld => ?_); refine with_tabW ask_tab1 ask_bits1 (fun HT_ HW_ => ?_)
 generalize ((w.alloc (.cells #[.int .u32 n.1, .int .u32 n.2.1, .int .i64 n.2.2.1, .slice A3 n.2.2.2.1.length c3, .slice A4 n.2.2.2.2.length c4] 44)).alloc (.cells #[.int .i64 q.kind, .int .u32 q.b0, .int .u32 q.b1, .int .u32 q.b2, .int .u32 q.b3, .int .u32 q.x, .int .u32 q.y, .int .u64 q.sq, .int .i64 q.k, .int .u64 q.after, .bool q.from_] 28)).drew = w2 at hX hN hB hHeld ⊢
 refine pA 1 HT_ ?_
 refine tA 2 HT_ HW_ ?_
 refine tA 4 HT_ HW_ ?_
 refine tA 5 HT_ HW_ ?_
 refine oA 0 HT_ (fun K hK => ?_)
 refine goes_ Tryz.func20 (by kernel_rfl) rfl #[] (by rfl) rfl rfl (by simp) ?_
 refine (kinds_calls _).mono ?_
 rintro e w3 ⟨bm, rfl, hm, hbm, hb3⟩
 refine ⟨_, rfl, ?_⟩
 have n1_ := Aside0.mk (below_call hB.out hb3)
 have n2_ := Aside0.mk (boxc_below hX.out hb3)
 have n3_ := Aside0.mk (boxc_below hN.out hb3)
 have hget := mapGet hm q.kind
 rw [HKV.out] at hget
 clear hB hX hN hm hbm hb3
 have hB := n1_
 have hX := n2_
 have hN := n3_
 clear n1_ n2_ n3_
 refine hK.out _ _ ⟨(blk_cell hN.out 0).trans rfl, (blk_cell hN.out 1).trans rfl, (blk_cell hN.out 2).trans rfl, (blk_cell hN.out 3).trans rfl, (blk_cell hN.out 4).trans rfl, (blk_cell hX.out 0).trans rfl, (blk_cell hX.out 1).trans rfl, (blk_cell hX.out 2).trans rfl, (blk_cell hX.out 3).trans rfl, (blk_cell hX.out 4).trans rfl, (blk_cell hX.out 5).trans rfl, (blk_cell hX.out 6).trans rfl, (blk_cell hX.out 7).trans rfl, (blk_cell hX.out 8).trans rfl, (blk_cell hX.out 9).trans rfl, (blk_cell hX.out 10).trans rfl⟩ (fun hHeld => ?_)
 clear hK K
 refine nA ?_
 refine oA 3 HT_ (fun K hK => ?_)
 refine value_ (w1 := ?_) (v := ?_) (by rfl) rfl ?_ ?_
 rotate_left 2
 ·go_simp
  constructor
  ·rfl
  ·rfl
 refine hK.out _ _ ⟨(blk_cell hN.out 0).trans rfl, (blk_cell hN.out 1).trans rfl, (blk_cell hN.out 2).trans rfl, (blk_cell hN.out 3).trans rfl, (blk_cell hN.out 4).trans rfl, (blk_cell hX.out 0).trans rfl, (blk_cell hX.out 1).trans rfl, (blk_cell hX.out 2).trans rfl, (blk_cell hX.out 3).trans rfl, (blk_cell hX.out 4).trans rfl, (blk_cell hX.out 5).trans rfl, (blk_cell hX.out 6).trans rfl, (blk_cell hX.out 7).trans rfl, (blk_cell hX.out 8).trans rfl, (blk_cell hX.out 9).trans rfl, (blk_cell hX.out 10).trans rfl⟩ (fun hHeld => ?_)
 clear hK K
 refine nA ?_
 refine oA 6 HT_ (fun K hK => ?_)
 clear hget
 refine call_ f #[.agg #[.int .u32 n.1, .int .u32 n.2.1, .int .i64 n.2.2.1, .slice A3 n.2.2.2.1.length c3, .slice A4 n.2.2.2.2.length c4], .agg #[.int .i64 q.kind, .int .u32 q.b0, .int .u32 q.b1, .int .u32 q.b2, .int .u32 q.b3, .int .u32 q.x, .int .u32 q.y, .int .u64 q.sq, .int .i64 q.k, .int .u64 q.after, .bool q.from_]] (by rfl) rfl (by have he := HEN.out #[.agg #[.int .u32 n.1, .int .u32 n.2.1, .int .i64 n.2.2.1, .slice A3 n.2.2.2.1.length c3, .slice A4 n.2.2.2.2.length c4], .agg #[.int .i64 q.kind, .int .u32 q.b0, .int .u32 q.b1, .int .u32 q.b2, .int .u32 q.b3, .int .u32 q.x, .int .u32 q.y, .int .u64 q.sq, .int .i64 q.k, .int .u64 q.after, .bool q.from_]]; unfold execOp; simp [resolve, Deferred.ofValue, invoke, Act.eval, he]) ?_
 refine (HCK.out _ (HT.out.below hB.out)).mono ?_
 rintro e w5 ⟨v5, rfl, hR5, hb5⟩
 refine ⟨_, rfl, ?_⟩
 have n1_ := Aside0.mk (below_call hB.out hb5)
 have n2_ := Aside0.mk (boxc_below hX.out hb5)
 have n3_ := Aside0.mk (boxc_below hN.out hb5)
 have HR := Aside0.mk (Kd.R_lower hR5 hB.out.size)
 have HNE := Aside0.mk (show some (w.heap.size + 1) ≠ v5.ownBlock from fun e => by have h1 := Kd.R_base hR5 _ e.symm; have h2 := boxc_lt hX.out; omega)
 clear hB hX hN hR5 hb5
 have hB := n1_
 have hX := n2_
 have hN := n3_
 clear n1_ n2_ n3_
 refine hK.out _ _ ⟨(blk_cell hN.out 0).trans rfl, (blk_cell hN.out 1).trans rfl, (blk_cell hN.out 2).trans rfl, (blk_cell hN.out 3).trans rfl, (blk_cell hN.out 4).trans rfl, (blk_cell hX.out 0).trans rfl, (blk_cell hX.out 1).trans rfl, (blk_cell hX.out 2).trans rfl, (blk_cell hX.out 3).trans rfl, (blk_cell hX.out 4).trans rfl, (blk_cell hX.out 5).trans rfl, (blk_cell hX.out 6).trans rfl, (blk_cell hX.out 7).trans rfl, (blk_cell hX.out 8).trans rfl, (blk_cell hX.out 9).trans rfl, (blk_cell hX.out 10).trans rfl⟩ (fun hHeld => ?_)
 clear hK K
 refine nA ?_
 refine pA 7 HT_ ?_
 refine done_ (done_of HT_.out (by kernel_rfl)) ?_
 have h10 := boxc_cell hX.out 10
 have h00 := boxc_cell hX.out 0
 by_cases hft : q.from_ = true ∧ q.kind ≠ 3
 ·have hl : leftQ q L = L.filter (fun r => !goneB q.after r) := if_pos hft
  have hne3 : (q.kind != 3) = true := bne_iff_ne.2 hft.2
  have hfr := hft.1
  rw [hfr] at h10
  have HL := Aside0.mk hl
  clear hl hft
  go_wp2_with fail
  clear h10 h00
  refine (delete_calls q (w.heap.size + 1) w.heap.size v5 L _ HR.out hX.out hB.out.size).mono ?_
  rintro e w6 ⟨v6, rfl, hR6, hg6⟩
  have n1_ := Aside0.mk (hB.out.grown hg6 hB.out.size (fun k hk => Kd.R_base HR.out k hk))
  have n2_ := Aside0.mk (blk_grown hX.out hg6 HNE.out)
  have n3_ := Aside0.mk (show Kd.R k37 37 w6 w.heap.size (fun _ => True) v6 (leftQ q L) by rw [HL.out]; exact hR6)
  clear hB hX hN HR HNE hR6 hg6 HL
  have hB := n1_
  have hX := n2_
  have HR := n3_
  clear n1_ n2_ n3_
  obtain ⟨LL, hLL⟩ : ∃ LL, leftQ q L = LL := ⟨_, rfl⟩
  rw [hLL] at HR
  have hcq : Aside0 (cutQ q L = (LL.take q.k.toNat, decide (q.k < (LL.length : Int)))) := ⟨by unfold cutQ; rw [hLL]⟩
  clear hLL
  obtain ⟨A6, c6, e6⟩ := Kd.R_slice HR.out
  subst e6
  have hn6 := (Kd.R_reads' HR.out).2.1
  have h8 := boxc_cell hX.out 8
  obtain ⟨i0_, hi_, hi0_, hi1_, hi2_⟩ := info_parts info37
  obtain ⟨m, hm⟩ : ∃ m : Nat, m = min q.k.toNat LL.length := ⟨_, rfl⟩
  have hmle : m ≤ LL.length := by rw [hm]; exact Nat.min_le_right _ _
  have hmin : Builtin.min2 (.int .i64 q.k) (.int .i64 (LL.length : Int)) = pure (.int .i64 (m : Int)) := by
   rw [min2_int]
   refine congrArg (fun x => (pure (Value.int .i64 x) : Sem Value)) ?_
   have := H0.out
   rw [hm]
   split <;> omega
  have hcut := cut_to (P := Tryz.prog) 22 37 .i64 Tryz.underlying22 hi_ A6 LL.length c6 (m : Int) (by omega) (by omega) hn6
  rw [Int.toNat_natCast] at hcut
  have HRES := Aside0.mk (Kd.R_take HR.out hmle)
  have hmk : Aside0 (LL.take m = LL.take q.k.toNat ∧ (decide (m < LL.length)) = decide (q.k < (LL.length : Int))) := ⟨by
   have := H0.out
   refine ⟨?_, ?_⟩
   ·rw [hm]
    rcases Nat.le_total q.k.toNat LL.length with h | h
    ·rw [Nat.min_eq_left h]
    ·rw [Nat.min_eq_right h, List.take_length, List.take_of_length_le h]
   ·rw [Bool.eq_iff_iff, decide_eq_true_iff, decide_eq_true_iff]; omega⟩
  clear hm hmle hi_ hi0_ hi1_ hi2_ hn6
  go_wp2
  go_ret2
  exact ⟨_, by rw [hcq.out, ← hmk.out.2]; rfl, by rw [hcq.out, ← hmk.out.1]; exact HRES.out, hB.out⟩
 ·have hl : leftQ q L = L := if_neg hft
  obtain ⟨LL, hLL⟩ : ∃ LL, leftQ q L = LL := ⟨_, rfl⟩
  rw [← hl, hLL] at HR
  have hcq : Aside0 (cutQ q L = (LL.take q.k.toNat, decide (q.k < (LL.length : Int)))) := ⟨by unfold cutQ; rw [hLL]⟩
  clear hLL hl
  cases hfr : q.from_ with
  | false =>
   rw [hfr] at h10
   obtain ⟨A6, c6, e6⟩ := Kd.R_slice HR.out
   subst e6
   have hn6 := (Kd.R_reads' HR.out).2.1
   have h8 := boxc_cell hX.out 8
   obtain ⟨i0_, hi_, hi0_, hi1_, hi2_⟩ := info_parts info37
   obtain ⟨m, hm⟩ : ∃ m : Nat, m = min q.k.toNat LL.length := ⟨_, rfl⟩
   have hmle : m ≤ LL.length := by rw [hm]; exact Nat.min_le_right _ _
   have hmin : Builtin.min2 (.int .i64 q.k) (.int .i64 (LL.length : Int)) = pure (.int .i64 (m : Int)) := by
    rw [min2_int]
    refine congrArg (fun x => (pure (Value.int .i64 x) : Sem Value)) ?_
    have := H0.out
    rw [hm]
    split <;> omega
   have hcut := cut_to (P := Tryz.prog) 22 37 .i64 Tryz.underlying22 hi_ A6 LL.length c6 (m : Int) (by omega) (by omega) hn6
   rw [Int.toNat_natCast] at hcut
   have HRES := Aside0.mk (Kd.R_take HR.out hmle)
   have hmk : Aside0 (LL.take m = LL.take q.k.toNat ∧ (decide (m < LL.length)) = decide (q.k < (LL.length : Int))) := ⟨by
    have := H0.out
    refine ⟨?_, ?_⟩
    ·rw [hm]
     rcases Nat.le_total q.k.toNat LL.length with h | h
     ·rw [Nat.min_eq_left h]
     ·rw [Nat.min_eq_right h, List.take_length, List.take_of_length_le h]
    ·rw [Bool.eq_iff_iff, decide_eq_true_iff, decide_eq_true_iff]; omega⟩
   clear hm hmle hi_ hi0_ hi1_ hi2_ hn6
   go_wp2
   go_ret2
   exact ⟨_, by rw [hcq.out, ← hmk.out.2]; rfl, by rw [hcq.out, ← hmk.out.1]; exact HRES.out, hB.out⟩
  | true =>
   have hne3 : (q.kind != 3) = false := bne_eq_false_iff_eq.2 (by rw [hfr] at hft; exact Decidable.byContradiction fun e => hft ⟨rfl, e⟩)
   rw [hfr] at h10
   obtain ⟨A6, c6, e6⟩ := Kd.R_slice HR.out
   subst e6
   have hn6 := (Kd.R_reads' HR.out).2.1
   have h8 := boxc_cell hX.out 8
   obtain ⟨i0_, hi_, hi0_, hi1_, hi2_⟩ := info_parts info37
   obtain ⟨m, hm⟩ : ∃ m : Nat, m = min q.k.toNat LL.length := ⟨_, rfl⟩
   have hmle : m ≤ LL.length := by rw [hm]; exact Nat.min_le_right _ _
   have hmin : Builtin.min2 (.int .i64 q.k) (.int .i64 (LL.length : Int)) = pure (.int .i64 (m : Int)) := by
    rw [min2_int]
    refine congrArg (fun x => (pure (Value.int .i64 x) : Sem Value)) ?_
    have := H0.out
    rw [hm]
    split <;> omega
   have hcut := cut_to (P := Tryz.prog) 22 37 .i64 Tryz.underlying22 hi_ A6 LL.length c6 (m : Int) (by omega) (by omega) hn6
   rw [Int.toNat_natCast] at hcut
   have HRES := Aside0.mk (Kd.R_take HR.out hmle)
   have hmk : Aside0 (LL.take m = LL.take q.k.toNat ∧ (decide (m < LL.length)) = decide (q.k < (LL.length : Int))) := ⟨by
    have := H0.out
    refine ⟨?_, ?_⟩
    ·rw [hm]
     rcases Nat.le_total q.k.toNat LL.length with h | h
     ·rw [Nat.min_eq_left h]
     ·rw [Nat.min_eq_right h, List.take_length, List.take_of_length_le h]
    ·rw [Bool.eq_iff_iff, decide_eq_true_iff, decide_eq_true_iff]; omega⟩
   clear hm hmle hi_ hi0_ hi1_ hi2_ hn6
   go_wp2
   go_ret2
   exact ⟨_, by rw [hcq.out, ← hmk.out.2]; rfl, by rw [hcq.out, ← hmk.out.1]; exact HRES.out, hB.out⟩
end Go.Proofs.YtoimgijhekahhaaGreat.P

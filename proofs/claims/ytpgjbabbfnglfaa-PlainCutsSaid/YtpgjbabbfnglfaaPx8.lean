-- Laid by a program of this session: the walk of functions of the translation, for this claim.
import Derived.Test.YtpgjbabbfnglfaaPx0
import Derived.Test.YtpgjbabbfnglfaaPx7
namespace Go.Proofs.Ytpgjbabbfnglfaa.P
open Go.RowKit Go.Proofs.YtpgjbabbfnglfaaOwn Go.Proofs.YtpgjbabbfnglfaaW.PrintWords Go.Proofs.YtpgjbabbfnglfaaW.PrintLast Go.Proofs.YtpgjbabbfnglfaaW.PrintMore
attribute [local go_sem] max2_int min2_int max_two min_two max_three min_three max_four min_four   -- for this text's walks alone
set_option linter.unusedVariables false
set_option linter.unusedSimpArgs false

/-! ### sphragisref12_Apply: function 14 -/
def sphragisref12_Apply.f (k : Nat) (l0 : List S26) (a1_0 a1_1 a1_2 a1_3 : Int) (a1_4 : ByteArray) : Option (List S26 × Int) :=
  (sphragisref09_Right.f k l0).bind fun t => if t = true then
    if a1_0 < 1 ∨ 3 < a1_0 then some ([], 2) else
    (sphragisref09_RightRow.f a1_1 a1_2 a1_3 a1_4).bind fun row =>
      if (a1_0 = 1 ∧ row = false) ∨ (a1_0 = 2 ∧ (2147483648 ≤ a1_2 ∨ 2147483648 ≤ a1_3)) then some ([], 80) else
      (sphragisref12_Get.f k l0 a1_1).bind fun q =>
        if a1_0 ≠ 1 ∧ q.2.2.2.2 ≠ 0 then some ([], q.2.2.2.2) else
        (sphragisref12_with.f k l0 a1_1 a1_1 a1_2 a1_3 (if a1_0 = 2 then q.2.2.2.1 else a1_4) (decide (a1_0 ≠ 3))).bind fun o =>
          if 1000 < o.length then some ([], 82) else some (o, 0)
  else some ([], 80)

theorem sphragisref12_Apply.mono (l0 : List S26) (a b c d : Int) (e : ByteArray) (k : Nat) : LeO (sphragisref12_Apply.f k l0 a b c d e) (sphragisref12_Apply.f (k + 1) l0 a b c d e) := by
  unfold sphragisref12_Apply.f
  repeat' first
      | (with_reducible exact sphragisref09_Right.mono _ _)
      | (with_reducible exact sphragisref12_Get.mono _ _ _)
      | (with_reducible exact sphragisref12_with.mono _ _ _ _ _ _ _ _)
      | (with_reducible exact LeO.refl _)
      | (with_reducible refine LeO.ite ?_ ?_)
      | (with_reducible refine LeO.bind ?_ (fun _ => ?_))

set_option maxRecDepth 100000 in
set_option maxHeartbeats 8000000 in
theorem rapply_no (k : Nat) (A0 : Option Addr) (c0 : Nat) (l0 : List S26) (a1_0 a1_1 a1_2 a1_3 : Int) (a1_4 : ByteArray)  (w : World) (hr0 : Kd.C k26 w A0 l0.length l0) (hc0 : l0.length ≤ c0) (A1 : Aside0 (sphragisref09_Right.f k l0 = some false)) :
    Calls Try.prog 14 #[.slice A0 l0.length c0, .agg #[.int .i64 a1_0, .int .u64 a1_1, .int .u32 a1_2, .int .u32 a1_3, .string a1_4]] w fun e w' => ∃ v0_ : Value, e = .returned (.tuple #[v0_, .int .i64 80]) ∧ Kd.R k26 26 w' w.heap.size (fun _ => True) v0_ [] ∧ Below w.heap.size w w' := by
  have hu28 := Try.underlying28
  have hu26 := Try.underlying26
  have HR0 := Aside0.mk hr0
  clear hr0
  go_enter Try.func14, Try.ntmps14
  go_wp2_with fail
  refine (sphragisref09_Right.calls k A0 c0 l0 false _ (Kd.C_alloc HR0.out _) hc0 A1.out).mono ?_
  rintro e1 w1 ⟨rfl, hb1⟩
  have HB1 := Aside0.mk (below_call (below_alloc' (Below.refl _ w) _) hb1)
  have B1 := boxc_below (boxc_new w #[.int .i64 a1_0, .int .u64 a1_1, .int .u32 a1_2, .int .u32 a1_3, .string a1_4] 28) hb1
  have c1_0 := (boxc_cell B1 0).trans rfl
  have c1_1 := (boxc_cell B1 1).trans rfl
  have c1_2 := (boxc_cell B1 2).trans rfl
  have c1_3 := (boxc_cell B1 3).trans rfl
  have c1_4 := (boxc_cell B1 4).trans rfl
  clear hb1
  go_wp2
  go_ret2
  exact ⟨_, rfl, Kd.R_nil _ _ _ _ _, HB1.out⟩

set_option maxRecDepth 100000 in
set_option maxHeartbeats 8000000 in
theorem rapply_lo (k : Nat) (A0 : Option Addr) (c0 : Nat) (l0 : List S26) (a1_0 a1_1 a1_2 a1_3 : Int) (a1_4 : ByteArray)  (w : World) (hr0 : Kd.C k26 w A0 l0.length l0) (hc0 : l0.length ≤ c0) (A1 : Aside0 (sphragisref09_Right.f k l0 = some true)) (hk : a1_0 < 1) :
    Calls Try.prog 14 #[.slice A0 l0.length c0, .agg #[.int .i64 a1_0, .int .u64 a1_1, .int .u32 a1_2, .int .u32 a1_3, .string a1_4]] w fun e w' => ∃ v0_ : Value, e = .returned (.tuple #[v0_, .int .i64 2]) ∧ Kd.R k26 26 w' w.heap.size (fun _ => True) v0_ [] ∧ Below w.heap.size w w' := by
  have hu28 := Try.underlying28
  have hu26 := Try.underlying26
  have HR0 := Aside0.mk hr0
  clear hr0
  go_enter Try.func14, Try.ntmps14
  go_wp2_with fail
  refine (sphragisref09_Right.calls k A0 c0 l0 true _ (Kd.C_alloc HR0.out _) hc0 A1.out).mono ?_
  rintro e1 w1 ⟨rfl, hb1⟩
  have HB1 := Aside0.mk (below_call (below_alloc' (Below.refl _ w) _) hb1)
  have B1 := boxc_below (boxc_new w #[.int .i64 a1_0, .int .u64 a1_1, .int .u32 a1_2, .int .u32 a1_3, .string a1_4] 28) hb1
  have c1_0 := (boxc_cell B1 0).trans rfl
  have c1_1 := (boxc_cell B1 1).trans rfl
  have c1_2 := (boxc_cell B1 2).trans rfl
  have c1_3 := (boxc_cell B1 3).trans rfl
  have c1_4 := (boxc_cell B1 4).trans rfl
  clear hb1
  go_wp2
  go_ret2
  exact ⟨_, rfl, Kd.R_nil _ _ _ _ _, HB1.out⟩

set_option maxRecDepth 100000 in
set_option maxHeartbeats 8000000 in
theorem rapply_hi (k : Nat) (A0 : Option Addr) (c0 : Nat) (l0 : List S26) (a1_0 a1_1 a1_2 a1_3 : Int) (a1_4 : ByteArray)  (w : World) (hr0 : Kd.C k26 w A0 l0.length l0) (hc0 : l0.length ≤ c0) (A1 : Aside0 (sphragisref09_Right.f k l0 = some true)) (hk : 3 < a1_0) :
    Calls Try.prog 14 #[.slice A0 l0.length c0, .agg #[.int .i64 a1_0, .int .u64 a1_1, .int .u32 a1_2, .int .u32 a1_3, .string a1_4]] w fun e w' => ∃ v0_ : Value, e = .returned (.tuple #[v0_, .int .i64 2]) ∧ Kd.R k26 26 w' w.heap.size (fun _ => True) v0_ [] ∧ Below w.heap.size w w' := by
  have hu28 := Try.underlying28
  have hu26 := Try.underlying26
  have HR0 := Aside0.mk hr0
  clear hr0
  have hk1 : ¬ a1_0 < 1 := by omega
  go_enter Try.func14, Try.ntmps14
  go_wp2_with fail
  refine (sphragisref09_Right.calls k A0 c0 l0 true _ (Kd.C_alloc HR0.out _) hc0 A1.out).mono ?_
  rintro e1 w1 ⟨rfl, hb1⟩
  have HB1 := Aside0.mk (below_call (below_alloc' (Below.refl _ w) _) hb1)
  have B1 := boxc_below (boxc_new w #[.int .i64 a1_0, .int .u64 a1_1, .int .u32 a1_2, .int .u32 a1_3, .string a1_4] 28) hb1
  have c1_0 := (boxc_cell B1 0).trans rfl
  have c1_1 := (boxc_cell B1 1).trans rfl
  have c1_2 := (boxc_cell B1 2).trans rfl
  have c1_3 := (boxc_cell B1 3).trans rfl
  have c1_4 := (boxc_cell B1 4).trans rfl
  clear hb1
  go_wp2
  go_ret2
  exact ⟨_, rfl, Kd.R_nil _ _ _ _ _, HB1.out⟩

set_option maxRecDepth 100000 in
set_option maxHeartbeats 8000000 in
theorem rapply_put (k : Nat) (A0 : Option Addr) (c0 : Nat) (l0 : List S26) (a1_1 a1_2 a1_3 : Int) (a1_4 : ByteArray)  (w : World) (hr0 : Kd.C k26 w A0 l0.length l0) (hc0 : l0.length ≤ c0) (A1 : Aside0 (sphragisref09_Right.f k l0 = some true)) (A2 : Aside0 (sphragisref09_RightRow.f a1_1 a1_2 a1_3 a1_4 = some false)) :
    Calls Try.prog 14 #[.slice A0 l0.length c0, .agg #[.int .i64 1, .int .u64 a1_1, .int .u32 a1_2, .int .u32 a1_3, .string a1_4]] w fun e w' => ∃ v0_ : Value, e = .returned (.tuple #[v0_, .int .i64 80]) ∧ Kd.R k26 26 w' w.heap.size (fun _ => True) v0_ [] ∧ Below w.heap.size w w' := by
  have hu28 := Try.underlying28
  have hu26 := Try.underlying26
  have HR0 := Aside0.mk hr0
  clear hr0
  go_enter Try.func14, Try.ntmps14
  go_wp2_with fail
  refine (sphragisref09_Right.calls k A0 c0 l0 true _ (Kd.C_alloc HR0.out _) hc0 A1.out).mono ?_
  rintro e1 w1 ⟨rfl, hb1⟩
  have HB1 := Aside0.mk (below_call (below_alloc' (Below.refl _ w) _) hb1)
  have B1 := boxc_below (boxc_new w #[.int .i64 1, .int .u64 a1_1, .int .u32 a1_2, .int .u32 a1_3, .string a1_4] 28) hb1
  have c1_0 := (boxc_cell B1 0).trans rfl
  have c1_1 := (boxc_cell B1 1).trans rfl
  have c1_2 := (boxc_cell B1 2).trans rfl
  have c1_3 := (boxc_cell B1 3).trans rfl
  have c1_4 := (boxc_cell B1 4).trans rfl
  clear hb1
  go_wp2_with fail
  refine (sphragisref09_RightRow.calls a1_1 a1_2 a1_3 a1_4 false _ A2.out).mono ?_
  rintro e2 w2 ⟨rfl, hb2⟩
  have HB2 := Aside0.mk (below_call HB1.out hb2)
  have B2 := boxc_below B1 hb2
  have c2_0 := (boxc_cell B2 0).trans rfl
  have c2_1 := (boxc_cell B2 1).trans rfl
  have c2_2 := (boxc_cell B2 2).trans rfl
  have c2_3 := (boxc_cell B2 3).trans rfl
  have c2_4 := (boxc_cell B2 4).trans rfl
  clear c1_0 c1_1 c1_2 c1_3 c1_4 hb2 B1
  go_wp2
  go_ret2
  exact ⟨_, rfl, Kd.R_nil _ _ _ _ _, HB2.out⟩

set_option maxRecDepth 100000 in
set_option maxHeartbeats 8000000 in
theorem rapply_x (k : Nat) (A0 : Option Addr) (c0 : Nat) (l0 : List S26) (a1_1 a1_2 a1_3 : Int) (a1_4 : ByteArray) (b : Bool) (w : World) (hr0 : Kd.C k26 w A0 l0.length l0) (hc0 : l0.length ≤ c0) (A1 : Aside0 (sphragisref09_Right.f k l0 = some true)) (A2 : Aside0 (sphragisref09_RightRow.f a1_1 a1_2 a1_3 a1_4 = some b)) (hx : 2147483648 ≤ a1_2) :
    Calls Try.prog 14 #[.slice A0 l0.length c0, .agg #[.int .i64 2, .int .u64 a1_1, .int .u32 a1_2, .int .u32 a1_3, .string a1_4]] w fun e w' => ∃ v0_ : Value, e = .returned (.tuple #[v0_, .int .i64 80]) ∧ Kd.R k26 26 w' w.heap.size (fun _ => True) v0_ [] ∧ Below w.heap.size w w' := by
  have hu28 := Try.underlying28
  have hu26 := Try.underlying26
  have HR0 := Aside0.mk hr0
  clear hr0
  go_enter Try.func14, Try.ntmps14
  go_wp2_with fail
  refine (sphragisref09_Right.calls k A0 c0 l0 true _ (Kd.C_alloc HR0.out _) hc0 A1.out).mono ?_
  rintro e1 w1 ⟨rfl, hb1⟩
  have HB1 := Aside0.mk (below_call (below_alloc' (Below.refl _ w) _) hb1)
  have B1 := boxc_below (boxc_new w #[.int .i64 2, .int .u64 a1_1, .int .u32 a1_2, .int .u32 a1_3, .string a1_4] 28) hb1
  have c1_0 := (boxc_cell B1 0).trans rfl
  have c1_1 := (boxc_cell B1 1).trans rfl
  have c1_2 := (boxc_cell B1 2).trans rfl
  have c1_3 := (boxc_cell B1 3).trans rfl
  have c1_4 := (boxc_cell B1 4).trans rfl
  clear hb1
  go_wp2_with fail
  refine (sphragisref09_RightRow.calls a1_1 a1_2 a1_3 a1_4 b _ A2.out).mono ?_
  rintro e2 w2 ⟨rfl, hb2⟩
  have HB2 := Aside0.mk (below_call HB1.out hb2)
  have B2 := boxc_below B1 hb2
  have c2_0 := (boxc_cell B2 0).trans rfl
  have c2_1 := (boxc_cell B2 1).trans rfl
  have c2_2 := (boxc_cell B2 2).trans rfl
  have c2_3 := (boxc_cell B2 3).trans rfl
  have c2_4 := (boxc_cell B2 4).trans rfl
  clear c1_0 c1_1 c1_2 c1_3 c1_4 hb2 B1
  go_wp2
  go_ret2
  exact ⟨_, rfl, Kd.R_nil _ _ _ _ _, HB2.out⟩

set_option maxRecDepth 100000 in
set_option maxHeartbeats 8000000 in
theorem rapply_y (k : Nat) (A0 : Option Addr) (c0 : Nat) (l0 : List S26) (a1_1 a1_2 a1_3 : Int) (a1_4 : ByteArray) (b : Bool) (w : World) (hr0 : Kd.C k26 w A0 l0.length l0) (hc0 : l0.length ≤ c0) (A1 : Aside0 (sphragisref09_Right.f k l0 = some true)) (A2 : Aside0 (sphragisref09_RightRow.f a1_1 a1_2 a1_3 a1_4 = some b)) (hx : a1_2 < 2147483648) (hy : 2147483648 ≤ a1_3) :
    Calls Try.prog 14 #[.slice A0 l0.length c0, .agg #[.int .i64 2, .int .u64 a1_1, .int .u32 a1_2, .int .u32 a1_3, .string a1_4]] w fun e w' => ∃ v0_ : Value, e = .returned (.tuple #[v0_, .int .i64 80]) ∧ Kd.R k26 26 w' w.heap.size (fun _ => True) v0_ [] ∧ Below w.heap.size w w' := by
  have hu28 := Try.underlying28
  have hu26 := Try.underlying26
  have HR0 := Aside0.mk hr0
  clear hr0
  go_enter Try.func14, Try.ntmps14
  go_wp2_with fail
  refine (sphragisref09_Right.calls k A0 c0 l0 true _ (Kd.C_alloc HR0.out _) hc0 A1.out).mono ?_
  rintro e1 w1 ⟨rfl, hb1⟩
  have HB1 := Aside0.mk (below_call (below_alloc' (Below.refl _ w) _) hb1)
  have B1 := boxc_below (boxc_new w #[.int .i64 2, .int .u64 a1_1, .int .u32 a1_2, .int .u32 a1_3, .string a1_4] 28) hb1
  have c1_0 := (boxc_cell B1 0).trans rfl
  have c1_1 := (boxc_cell B1 1).trans rfl
  have c1_2 := (boxc_cell B1 2).trans rfl
  have c1_3 := (boxc_cell B1 3).trans rfl
  have c1_4 := (boxc_cell B1 4).trans rfl
  clear hb1
  go_wp2_with fail
  refine (sphragisref09_RightRow.calls a1_1 a1_2 a1_3 a1_4 b _ A2.out).mono ?_
  rintro e2 w2 ⟨rfl, hb2⟩
  have HB2 := Aside0.mk (below_call HB1.out hb2)
  have B2 := boxc_below B1 hb2
  have c2_0 := (boxc_cell B2 0).trans rfl
  have c2_1 := (boxc_cell B2 1).trans rfl
  have c2_2 := (boxc_cell B2 2).trans rfl
  have c2_3 := (boxc_cell B2 3).trans rfl
  have c2_4 := (boxc_cell B2 4).trans rfl
  clear c1_0 c1_1 c1_2 c1_3 c1_4 hb2 B1
  go_wp2
  go_ret2
  exact ⟨_, rfl, Kd.R_nil _ _ _ _ _, HB2.out⟩

set_option maxRecDepth 100000 in
set_option maxHeartbeats 8000000 in
theorem rapply_none2 (k : Nat) (A0 : Option Addr) (c0 : Nat) (l0 : List S26) (a1_1 a1_2 a1_3 : Int) (a1_4 : ByteArray) (b : Bool) (g0 g1 g2 : Int) (g3 : ByteArray) (ge : Int) (w : World) (hr0 : Kd.C k26 w A0 l0.length l0) (hc0 : l0.length ≤ c0) (A1 : Aside0 (sphragisref09_Right.f k l0 = some true)) (A2 : Aside0 (sphragisref09_RightRow.f a1_1 a1_2 a1_3 a1_4 = some b)) (hx : a1_2 < 2147483648) (hy : a1_3 < 2147483648) (A3 : Aside0 (sphragisref12_Get.f k l0 a1_1 = some (g0, g1, g2, g3, ge))) (he : (ge != 0) = true) :
    Calls Try.prog 14 #[.slice A0 l0.length c0, .agg #[.int .i64 2, .int .u64 a1_1, .int .u32 a1_2, .int .u32 a1_3, .string a1_4]] w fun e w' => ∃ v0_ : Value, e = .returned (.tuple #[v0_, .int .i64 ge]) ∧ Kd.R k26 26 w' w.heap.size (fun _ => True) v0_ [] ∧ Below w.heap.size w w' := by
  have hu28 := Try.underlying28
  have hu26 := Try.underlying26
  have HR0 := Aside0.mk hr0
  clear hr0
  go_enter Try.func14, Try.ntmps14
  go_wp2_with fail
  refine (sphragisref09_Right.calls k A0 c0 l0 true _ (Kd.C_alloc HR0.out _) hc0 A1.out).mono ?_
  rintro e1 w1 ⟨rfl, hb1⟩
  have HB1 := Aside0.mk (below_call (below_alloc' (Below.refl _ w) _) hb1)
  have B1 := boxc_below (boxc_new w #[.int .i64 2, .int .u64 a1_1, .int .u32 a1_2, .int .u32 a1_3, .string a1_4] 28) hb1
  have c1_0 := (boxc_cell B1 0).trans rfl
  have c1_1 := (boxc_cell B1 1).trans rfl
  have c1_2 := (boxc_cell B1 2).trans rfl
  have c1_3 := (boxc_cell B1 3).trans rfl
  have c1_4 := (boxc_cell B1 4).trans rfl
  clear hb1
  go_wp2_with fail
  refine (sphragisref09_RightRow.calls a1_1 a1_2 a1_3 a1_4 b _ A2.out).mono ?_
  rintro e2 w2 ⟨rfl, hb2⟩
  have HB2 := Aside0.mk (below_call HB1.out hb2)
  have B2 := boxc_below B1 hb2
  have c2_0 := (boxc_cell B2 0).trans rfl
  have c2_1 := (boxc_cell B2 1).trans rfl
  have c2_2 := (boxc_cell B2 2).trans rfl
  have c2_3 := (boxc_cell B2 3).trans rfl
  have c2_4 := (boxc_cell B2 4).trans rfl
  clear c1_0 c1_1 c1_2 c1_3 c1_4 hb2 B1
  go_wp2_with fail
  refine (sphragisref12_Get.calls k A0 c0 l0 a1_1 g0 g1 g2 g3 ge _ (Kd.C_below HR0.out HB2.out) hc0 A3.out).mono ?_
  rintro e3 w3 ⟨rfl, hb3⟩
  have HB3 := Aside0.mk (below_call HB2.out hb3)
  have B3 := boxc_below B2 hb3
  have c3_0 := (boxc_cell B3 0).trans rfl
  have c3_1 := (boxc_cell B3 1).trans rfl
  have c3_2 := (boxc_cell B3 2).trans rfl
  have c3_3 := (boxc_cell B3 3).trans rfl
  have c3_4 := (boxc_cell B3 4).trans rfl
  clear c2_0 c2_1 c2_2 c2_3 c2_4 hb3 B2
  have D1 := boxc_alloc B3 (.cells #[.int .u64 g0, .int .u32 g1, .int .u32 g2, .string g3] 26)
  have d1_0 := (boxc_cell D1 0).trans rfl
  have d1_1 := (boxc_cell D1 1).trans rfl
  have d1_2 := (boxc_cell D1 2).trans rfl
  have d1_3 := (boxc_cell D1 3).trans rfl
  have d1_4 := (boxc_cell D1 4).trans rfl
  go_wp2
  go_ret2
  exact ⟨_, rfl, Kd.R_nil _ _ _ _ _, below_alloc' HB3.out _⟩

set_option maxRecDepth 100000 in
set_option maxHeartbeats 8000000 in
theorem rapply_none3 (k : Nat) (A0 : Option Addr) (c0 : Nat) (l0 : List S26) (a1_1 a1_2 a1_3 : Int) (a1_4 : ByteArray) (b : Bool) (g0 g1 g2 : Int) (g3 : ByteArray) (ge : Int) (w : World) (hr0 : Kd.C k26 w A0 l0.length l0) (hc0 : l0.length ≤ c0) (A1 : Aside0 (sphragisref09_Right.f k l0 = some true)) (A2 : Aside0 (sphragisref09_RightRow.f a1_1 a1_2 a1_3 a1_4 = some b)) (A3 : Aside0 (sphragisref12_Get.f k l0 a1_1 = some (g0, g1, g2, g3, ge))) (he : (ge != 0) = true) :
    Calls Try.prog 14 #[.slice A0 l0.length c0, .agg #[.int .i64 3, .int .u64 a1_1, .int .u32 a1_2, .int .u32 a1_3, .string a1_4]] w fun e w' => ∃ v0_ : Value, e = .returned (.tuple #[v0_, .int .i64 ge]) ∧ Kd.R k26 26 w' w.heap.size (fun _ => True) v0_ [] ∧ Below w.heap.size w w' := by
  have hu28 := Try.underlying28
  have hu26 := Try.underlying26
  have HR0 := Aside0.mk hr0
  clear hr0
  go_enter Try.func14, Try.ntmps14
  go_wp2_with fail
  refine (sphragisref09_Right.calls k A0 c0 l0 true _ (Kd.C_alloc HR0.out _) hc0 A1.out).mono ?_
  rintro e1 w1 ⟨rfl, hb1⟩
  have HB1 := Aside0.mk (below_call (below_alloc' (Below.refl _ w) _) hb1)
  have B1 := boxc_below (boxc_new w #[.int .i64 3, .int .u64 a1_1, .int .u32 a1_2, .int .u32 a1_3, .string a1_4] 28) hb1
  have c1_0 := (boxc_cell B1 0).trans rfl
  have c1_1 := (boxc_cell B1 1).trans rfl
  have c1_2 := (boxc_cell B1 2).trans rfl
  have c1_3 := (boxc_cell B1 3).trans rfl
  have c1_4 := (boxc_cell B1 4).trans rfl
  clear hb1
  go_wp2_with fail
  refine (sphragisref09_RightRow.calls a1_1 a1_2 a1_3 a1_4 b _ A2.out).mono ?_
  rintro e2 w2 ⟨rfl, hb2⟩
  have HB2 := Aside0.mk (below_call HB1.out hb2)
  have B2 := boxc_below B1 hb2
  have c2_0 := (boxc_cell B2 0).trans rfl
  have c2_1 := (boxc_cell B2 1).trans rfl
  have c2_2 := (boxc_cell B2 2).trans rfl
  have c2_3 := (boxc_cell B2 3).trans rfl
  have c2_4 := (boxc_cell B2 4).trans rfl
  clear c1_0 c1_1 c1_2 c1_3 c1_4 hb2 B1
  go_wp2_with fail
  refine (sphragisref12_Get.calls k A0 c0 l0 a1_1 g0 g1 g2 g3 ge _ (Kd.C_below HR0.out HB2.out) hc0 A3.out).mono ?_
  rintro e3 w3 ⟨rfl, hb3⟩
  have HB3 := Aside0.mk (below_call HB2.out hb3)
  have B3 := boxc_below B2 hb3
  have c3_0 := (boxc_cell B3 0).trans rfl
  have c3_1 := (boxc_cell B3 1).trans rfl
  have c3_2 := (boxc_cell B3 2).trans rfl
  have c3_3 := (boxc_cell B3 3).trans rfl
  have c3_4 := (boxc_cell B3 4).trans rfl
  clear c2_0 c2_1 c2_2 c2_3 c2_4 hb3 B2
  have D1 := boxc_alloc B3 (.cells #[.int .u64 g0, .int .u32 g1, .int .u32 g2, .string g3] 26)
  have d1_0 := (boxc_cell D1 0).trans rfl
  have d1_1 := (boxc_cell D1 1).trans rfl
  have d1_2 := (boxc_cell D1 2).trans rfl
  have d1_3 := (boxc_cell D1 3).trans rfl
  have d1_4 := (boxc_cell D1 4).trans rfl
  go_wp2
  go_ret2
  exact ⟨_, rfl, Kd.R_nil _ _ _ _ _, below_alloc' HB3.out _⟩

set_option maxRecDepth 100000 in
set_option maxHeartbeats 8000000 in
theorem rapply_many1 (k : Nat) (A0 : Option Addr) (c0 : Nat) (l0 : List S26) (a1_1 a1_2 a1_3 : Int) (a1_4 : ByteArray) (g0 g1 g2 : Int) (g3 : ByteArray) (ge : Int) (o : List S26) (w : World) (hr0 : Kd.C k26 w A0 l0.length l0) (hc0 : l0.length ≤ c0) (A1 : Aside0 (sphragisref09_Right.f k l0 = some true)) (A2 : Aside0 (sphragisref09_RightRow.f a1_1 a1_2 a1_3 a1_4 = some true)) (A3 : Aside0 (sphragisref12_Get.f k l0 a1_1 = some (g0, g1, g2, g3, ge))) (A4 : Aside0 (sphragisref12_with.f k l0 a1_1 a1_1 a1_2 a1_3 a1_4 true = some o)) (ho : 1000 < o.length) :
    Calls Try.prog 14 #[.slice A0 l0.length c0, .agg #[.int .i64 1, .int .u64 a1_1, .int .u32 a1_2, .int .u32 a1_3, .string a1_4]] w fun e w' => ∃ v0_ : Value, e = .returned (.tuple #[v0_, .int .i64 82]) ∧ Kd.R k26 26 w' w.heap.size (fun _ => True) v0_ [] ∧ Below w.heap.size w w' := by
  have hu28 := Try.underlying28
  have hu26 := Try.underlying26
  have HR0 := Aside0.mk hr0
  clear hr0
  have ho2 : decide (1000 < (o.length : Int)) = true := decide_eq_true (by omega)
  clear ho
  go_enter Try.func14, Try.ntmps14
  go_wp2_with fail
  refine (sphragisref09_Right.calls k A0 c0 l0 true _ (Kd.C_alloc HR0.out _) hc0 A1.out).mono ?_
  rintro e1 w1 ⟨rfl, hb1⟩
  have HB1 := Aside0.mk (below_call (below_alloc' (Below.refl _ w) _) hb1)
  have B1 := boxc_below (boxc_new w #[.int .i64 1, .int .u64 a1_1, .int .u32 a1_2, .int .u32 a1_3, .string a1_4] 28) hb1
  have c1_0 := (boxc_cell B1 0).trans rfl
  have c1_1 := (boxc_cell B1 1).trans rfl
  have c1_2 := (boxc_cell B1 2).trans rfl
  have c1_3 := (boxc_cell B1 3).trans rfl
  have c1_4 := (boxc_cell B1 4).trans rfl
  clear hb1
  go_wp2_with fail
  refine (sphragisref09_RightRow.calls a1_1 a1_2 a1_3 a1_4 true _ A2.out).mono ?_
  rintro e2 w2 ⟨rfl, hb2⟩
  have HB2 := Aside0.mk (below_call HB1.out hb2)
  have B2 := boxc_below B1 hb2
  have c2_0 := (boxc_cell B2 0).trans rfl
  have c2_1 := (boxc_cell B2 1).trans rfl
  have c2_2 := (boxc_cell B2 2).trans rfl
  have c2_3 := (boxc_cell B2 3).trans rfl
  have c2_4 := (boxc_cell B2 4).trans rfl
  clear c1_0 c1_1 c1_2 c1_3 c1_4 hb2 B1
  go_wp2_with fail
  refine (sphragisref12_Get.calls k A0 c0 l0 a1_1 g0 g1 g2 g3 ge _ (Kd.C_below HR0.out HB2.out) hc0 A3.out).mono ?_
  rintro e3 w3 ⟨rfl, hb3⟩
  have HB3 := Aside0.mk (below_call HB2.out hb3)
  have B3 := boxc_below B2 hb3
  have c3_0 := (boxc_cell B3 0).trans rfl
  have c3_1 := (boxc_cell B3 1).trans rfl
  have c3_2 := (boxc_cell B3 2).trans rfl
  have c3_3 := (boxc_cell B3 3).trans rfl
  have c3_4 := (boxc_cell B3 4).trans rfl
  clear c2_0 c2_1 c2_2 c2_3 c2_4 hb3 B2
  have D1 := boxc_alloc B3 (.cells #[.int .u64 g0, .int .u32 g1, .int .u32 g2, .string g3] 26)
  have D2 := boxc_alloc D1 (.cells #[.int .u64 a1_1, .int .u32 a1_2, .int .u32 a1_3, .string a1_4] 26)
  have d1_0 := (boxc_cell D1 0).trans rfl
  have d2_0 := (boxc_cell D2 0).trans rfl
  have d1_1 := (boxc_cell D1 1).trans rfl
  have d2_1 := (boxc_cell D2 1).trans rfl
  have d1_2 := (boxc_cell D1 2).trans rfl
  have d2_2 := (boxc_cell D2 2).trans rfl
  have d1_3 := (boxc_cell D1 3).trans rfl
  have d2_3 := (boxc_cell D2 3).trans rfl
  have d1_4 := (boxc_cell D1 4).trans rfl
  have d2_4 := (boxc_cell D2 4).trans rfl
  have DG := boxc_alloc (boxc_new w3 #[.int .u64 g0, .int .u32 g1, .int .u32 g2, .string g3] 26) (.cells #[.int .u64 a1_1, .int .u32 a1_2, .int .u32 a1_3, .string a1_4] 26)
  have dg_0 := (boxc_cell DG 0).trans rfl
  have dg_1 := (boxc_cell DG 1).trans rfl
  have dg_2 := (boxc_cell DG 2).trans rfl
  have dg_3 := (boxc_cell DG 3).trans rfl
  go_wp2_with fail
  refine (sphragisref12_with.calls k A0 c0 l0 a1_1 a1_1 a1_2 a1_3 a1_4 true o _ (Kd.C_below HR0.out (below_alloc' (below_alloc' HB3.out _) _)) hc0 A4.out).mono ?_
  rintro e4 w4 ⟨v4, rfl, hR4, hb4⟩
  have HB4 := Aside0.mk (below_call (below_alloc' (below_alloc' HB3.out _) _) hb4)
  have HR4 := Aside0.mk (Kd.R_lower (base' := w.heap.size) hR4 (by have := HB3.out.size; simp; omega))
  obtain ⟨A4, c4, e4⟩ := Kd.R_slice HR4.out
  subst e4
  clear hR4 hb4
  go_wp2
  go_ret2
  exact ⟨_, rfl, Kd.R_nil _ _ _ _ _, HB4.out⟩

set_option maxRecDepth 100000 in
set_option maxHeartbeats 8000000 in
theorem rapply_go1 (k : Nat) (A0 : Option Addr) (c0 : Nat) (l0 : List S26) (a1_1 a1_2 a1_3 : Int) (a1_4 : ByteArray) (g0 g1 g2 : Int) (g3 : ByteArray) (ge : Int) (o : List S26) (w : World) (hr0 : Kd.C k26 w A0 l0.length l0) (hc0 : l0.length ≤ c0) (A1 : Aside0 (sphragisref09_Right.f k l0 = some true)) (A2 : Aside0 (sphragisref09_RightRow.f a1_1 a1_2 a1_3 a1_4 = some true)) (A3 : Aside0 (sphragisref12_Get.f k l0 a1_1 = some (g0, g1, g2, g3, ge))) (A4 : Aside0 (sphragisref12_with.f k l0 a1_1 a1_1 a1_2 a1_3 a1_4 true = some o)) (ho : ¬ 1000 < o.length) :
    Calls Try.prog 14 #[.slice A0 l0.length c0, .agg #[.int .i64 1, .int .u64 a1_1, .int .u32 a1_2, .int .u32 a1_3, .string a1_4]] w fun e w' => ∃ v0_ : Value, e = .returned (.tuple #[v0_, .int .i64 0]) ∧ Kd.R k26 26 w' w.heap.size (fun _ => True) v0_ o ∧ Below w.heap.size w w' := by
  have hu28 := Try.underlying28
  have hu26 := Try.underlying26
  have HR0 := Aside0.mk hr0
  clear hr0
  have ho2 : decide (1000 < (o.length : Int)) = false := decide_eq_false (by omega)
  clear ho
  go_enter Try.func14, Try.ntmps14
  go_wp2_with fail
  refine (sphragisref09_Right.calls k A0 c0 l0 true _ (Kd.C_alloc HR0.out _) hc0 A1.out).mono ?_
  rintro e1 w1 ⟨rfl, hb1⟩
  have HB1 := Aside0.mk (below_call (below_alloc' (Below.refl _ w) _) hb1)
  have B1 := boxc_below (boxc_new w #[.int .i64 1, .int .u64 a1_1, .int .u32 a1_2, .int .u32 a1_3, .string a1_4] 28) hb1
  have c1_0 := (boxc_cell B1 0).trans rfl
  have c1_1 := (boxc_cell B1 1).trans rfl
  have c1_2 := (boxc_cell B1 2).trans rfl
  have c1_3 := (boxc_cell B1 3).trans rfl
  have c1_4 := (boxc_cell B1 4).trans rfl
  clear hb1
  go_wp2_with fail
  refine (sphragisref09_RightRow.calls a1_1 a1_2 a1_3 a1_4 true _ A2.out).mono ?_
  rintro e2 w2 ⟨rfl, hb2⟩
  have HB2 := Aside0.mk (below_call HB1.out hb2)
  have B2 := boxc_below B1 hb2
  have c2_0 := (boxc_cell B2 0).trans rfl
  have c2_1 := (boxc_cell B2 1).trans rfl
  have c2_2 := (boxc_cell B2 2).trans rfl
  have c2_3 := (boxc_cell B2 3).trans rfl
  have c2_4 := (boxc_cell B2 4).trans rfl
  clear c1_0 c1_1 c1_2 c1_3 c1_4 hb2 B1
  go_wp2_with fail
  refine (sphragisref12_Get.calls k A0 c0 l0 a1_1 g0 g1 g2 g3 ge _ (Kd.C_below HR0.out HB2.out) hc0 A3.out).mono ?_
  rintro e3 w3 ⟨rfl, hb3⟩
  have HB3 := Aside0.mk (below_call HB2.out hb3)
  have B3 := boxc_below B2 hb3
  have c3_0 := (boxc_cell B3 0).trans rfl
  have c3_1 := (boxc_cell B3 1).trans rfl
  have c3_2 := (boxc_cell B3 2).trans rfl
  have c3_3 := (boxc_cell B3 3).trans rfl
  have c3_4 := (boxc_cell B3 4).trans rfl
  clear c2_0 c2_1 c2_2 c2_3 c2_4 hb3 B2
  have D1 := boxc_alloc B3 (.cells #[.int .u64 g0, .int .u32 g1, .int .u32 g2, .string g3] 26)
  have D2 := boxc_alloc D1 (.cells #[.int .u64 a1_1, .int .u32 a1_2, .int .u32 a1_3, .string a1_4] 26)
  have d1_0 := (boxc_cell D1 0).trans rfl
  have d2_0 := (boxc_cell D2 0).trans rfl
  have d1_1 := (boxc_cell D1 1).trans rfl
  have d2_1 := (boxc_cell D2 1).trans rfl
  have d1_2 := (boxc_cell D1 2).trans rfl
  have d2_2 := (boxc_cell D2 2).trans rfl
  have d1_3 := (boxc_cell D1 3).trans rfl
  have d2_3 := (boxc_cell D2 3).trans rfl
  have d1_4 := (boxc_cell D1 4).trans rfl
  have d2_4 := (boxc_cell D2 4).trans rfl
  have DG := boxc_alloc (boxc_new w3 #[.int .u64 g0, .int .u32 g1, .int .u32 g2, .string g3] 26) (.cells #[.int .u64 a1_1, .int .u32 a1_2, .int .u32 a1_3, .string a1_4] 26)
  have dg_0 := (boxc_cell DG 0).trans rfl
  have dg_1 := (boxc_cell DG 1).trans rfl
  have dg_2 := (boxc_cell DG 2).trans rfl
  have dg_3 := (boxc_cell DG 3).trans rfl
  go_wp2_with fail
  refine (sphragisref12_with.calls k A0 c0 l0 a1_1 a1_1 a1_2 a1_3 a1_4 true o _ (Kd.C_below HR0.out (below_alloc' (below_alloc' HB3.out _) _)) hc0 A4.out).mono ?_
  rintro e4 w4 ⟨v4, rfl, hR4, hb4⟩
  have HB4 := Aside0.mk (below_call (below_alloc' (below_alloc' HB3.out _) _) hb4)
  have HR4 := Aside0.mk (Kd.R_lower (base' := w.heap.size) hR4 (by have := HB3.out.size; simp; omega))
  obtain ⟨A4, c4, e4⟩ := Kd.R_slice HR4.out
  subst e4
  clear hR4 hb4
  go_wp2
  go_ret2
  exact ⟨_, rfl, HR4.out, HB4.out⟩

set_option maxRecDepth 100000 in
set_option maxHeartbeats 8000000 in
theorem rapply_many2 (k : Nat) (A0 : Option Addr) (c0 : Nat) (l0 : List S26) (a1_1 a1_2 a1_3 : Int) (a1_4 : ByteArray) (b : Bool) (g0 g1 g2 : Int) (g3 : ByteArray) (ge : Int) (o : List S26) (w : World) (hr0 : Kd.C k26 w A0 l0.length l0) (hc0 : l0.length ≤ c0) (A1 : Aside0 (sphragisref09_Right.f k l0 = some true)) (A2 : Aside0 (sphragisref09_RightRow.f a1_1 a1_2 a1_3 a1_4 = some b)) (hx : a1_2 < 2147483648) (hy : a1_3 < 2147483648) (A3 : Aside0 (sphragisref12_Get.f k l0 a1_1 = some (g0, g1, g2, g3, ge))) (he : (ge != 0) = false) (A4 : Aside0 (sphragisref12_with.f k l0 a1_1 a1_1 a1_2 a1_3 g3 true = some o)) (ho : 1000 < o.length) :
    Calls Try.prog 14 #[.slice A0 l0.length c0, .agg #[.int .i64 2, .int .u64 a1_1, .int .u32 a1_2, .int .u32 a1_3, .string a1_4]] w fun e w' => ∃ v0_ : Value, e = .returned (.tuple #[v0_, .int .i64 82]) ∧ Kd.R k26 26 w' w.heap.size (fun _ => True) v0_ [] ∧ Below w.heap.size w w' := by
  have hu28 := Try.underlying28
  have hu26 := Try.underlying26
  have HR0 := Aside0.mk hr0
  clear hr0
  have ho2 : decide (1000 < (o.length : Int)) = true := decide_eq_true (by omega)
  clear ho
  go_enter Try.func14, Try.ntmps14
  go_wp2_with fail
  refine (sphragisref09_Right.calls k A0 c0 l0 true _ (Kd.C_alloc HR0.out _) hc0 A1.out).mono ?_
  rintro e1 w1 ⟨rfl, hb1⟩
  have HB1 := Aside0.mk (below_call (below_alloc' (Below.refl _ w) _) hb1)
  have B1 := boxc_below (boxc_new w #[.int .i64 2, .int .u64 a1_1, .int .u32 a1_2, .int .u32 a1_3, .string a1_4] 28) hb1
  have c1_0 := (boxc_cell B1 0).trans rfl
  have c1_1 := (boxc_cell B1 1).trans rfl
  have c1_2 := (boxc_cell B1 2).trans rfl
  have c1_3 := (boxc_cell B1 3).trans rfl
  have c1_4 := (boxc_cell B1 4).trans rfl
  clear hb1
  go_wp2_with fail
  refine (sphragisref09_RightRow.calls a1_1 a1_2 a1_3 a1_4 b _ A2.out).mono ?_
  rintro e2 w2 ⟨rfl, hb2⟩
  have HB2 := Aside0.mk (below_call HB1.out hb2)
  have B2 := boxc_below B1 hb2
  have c2_0 := (boxc_cell B2 0).trans rfl
  have c2_1 := (boxc_cell B2 1).trans rfl
  have c2_2 := (boxc_cell B2 2).trans rfl
  have c2_3 := (boxc_cell B2 3).trans rfl
  have c2_4 := (boxc_cell B2 4).trans rfl
  clear c1_0 c1_1 c1_2 c1_3 c1_4 hb2 B1
  go_wp2_with fail
  refine (sphragisref12_Get.calls k A0 c0 l0 a1_1 g0 g1 g2 g3 ge _ (Kd.C_below HR0.out HB2.out) hc0 A3.out).mono ?_
  rintro e3 w3 ⟨rfl, hb3⟩
  have HB3 := Aside0.mk (below_call HB2.out hb3)
  have B3 := boxc_below B2 hb3
  have c3_0 := (boxc_cell B3 0).trans rfl
  have c3_1 := (boxc_cell B3 1).trans rfl
  have c3_2 := (boxc_cell B3 2).trans rfl
  have c3_3 := (boxc_cell B3 3).trans rfl
  have c3_4 := (boxc_cell B3 4).trans rfl
  clear c2_0 c2_1 c2_2 c2_3 c2_4 hb3 B2
  have D1 := boxc_alloc B3 (.cells #[.int .u64 g0, .int .u32 g1, .int .u32 g2, .string g3] 26)
  have D2 := boxc_alloc D1 (.cells #[.int .u64 a1_1, .int .u32 a1_2, .int .u32 a1_3, .string a1_4] 26)
  have d1_0 := (boxc_cell D1 0).trans rfl
  have d2_0 := (boxc_cell D2 0).trans rfl
  have d1_1 := (boxc_cell D1 1).trans rfl
  have d2_1 := (boxc_cell D2 1).trans rfl
  have d1_2 := (boxc_cell D1 2).trans rfl
  have d2_2 := (boxc_cell D2 2).trans rfl
  have d1_3 := (boxc_cell D1 3).trans rfl
  have d2_3 := (boxc_cell D2 3).trans rfl
  have d1_4 := (boxc_cell D1 4).trans rfl
  have d2_4 := (boxc_cell D2 4).trans rfl
  have DG := boxc_alloc (boxc_new w3 #[.int .u64 g0, .int .u32 g1, .int .u32 g2, .string g3] 26) (.cells #[.int .u64 a1_1, .int .u32 a1_2, .int .u32 a1_3, .string a1_4] 26)
  have dg_0 := (boxc_cell DG 0).trans rfl
  have dg_1 := (boxc_cell DG 1).trans rfl
  have dg_2 := (boxc_cell DG 2).trans rfl
  have dg_3 := (boxc_cell DG 3).trans rfl
  have D5 := boxc_alloc D1 (.cells #[.int .u64 a1_1, .int .u32 a1_2, .int .u32 a1_3, .string g3] 26)
  have d5_0 := (boxc_cell D5 0).trans rfl
  have d5_1 := (boxc_cell D5 1).trans rfl
  have d5_2 := (boxc_cell D5 2).trans rfl
  have d5_3 := (boxc_cell D5 3).trans rfl
  have d5_4 := (boxc_cell D5 4).trans rfl
  go_wp2_with fail
  refine (sphragisref12_with.calls k A0 c0 l0 a1_1 a1_1 a1_2 a1_3 g3 true o _ (Kd.C_below HR0.out (below_alloc' (below_alloc' HB3.out _) _)) hc0 A4.out).mono ?_
  rintro e4 w4 ⟨v4, rfl, hR4, hb4⟩
  have HB4 := Aside0.mk (below_call (below_alloc' (below_alloc' HB3.out _) _) hb4)
  have HR4 := Aside0.mk (Kd.R_lower (base' := w.heap.size) hR4 (by have := HB3.out.size; simp; omega))
  obtain ⟨A4, c4, e4⟩ := Kd.R_slice HR4.out
  subst e4
  clear hR4 hb4
  go_wp2
  go_ret2
  exact ⟨_, rfl, Kd.R_nil _ _ _ _ _, HB4.out⟩

set_option maxRecDepth 100000 in
set_option maxHeartbeats 8000000 in
theorem rapply_go2 (k : Nat) (A0 : Option Addr) (c0 : Nat) (l0 : List S26) (a1_1 a1_2 a1_3 : Int) (a1_4 : ByteArray) (b : Bool) (g0 g1 g2 : Int) (g3 : ByteArray) (ge : Int) (o : List S26) (w : World) (hr0 : Kd.C k26 w A0 l0.length l0) (hc0 : l0.length ≤ c0) (A1 : Aside0 (sphragisref09_Right.f k l0 = some true)) (A2 : Aside0 (sphragisref09_RightRow.f a1_1 a1_2 a1_3 a1_4 = some b)) (hx : a1_2 < 2147483648) (hy : a1_3 < 2147483648) (A3 : Aside0 (sphragisref12_Get.f k l0 a1_1 = some (g0, g1, g2, g3, ge))) (he : (ge != 0) = false) (A4 : Aside0 (sphragisref12_with.f k l0 a1_1 a1_1 a1_2 a1_3 g3 true = some o)) (ho : ¬ 1000 < o.length) :
    Calls Try.prog 14 #[.slice A0 l0.length c0, .agg #[.int .i64 2, .int .u64 a1_1, .int .u32 a1_2, .int .u32 a1_3, .string a1_4]] w fun e w' => ∃ v0_ : Value, e = .returned (.tuple #[v0_, .int .i64 0]) ∧ Kd.R k26 26 w' w.heap.size (fun _ => True) v0_ o ∧ Below w.heap.size w w' := by
  have hu28 := Try.underlying28
  have hu26 := Try.underlying26
  have HR0 := Aside0.mk hr0
  clear hr0
  have ho2 : decide (1000 < (o.length : Int)) = false := decide_eq_false (by omega)
  clear ho
  go_enter Try.func14, Try.ntmps14
  go_wp2_with fail
  refine (sphragisref09_Right.calls k A0 c0 l0 true _ (Kd.C_alloc HR0.out _) hc0 A1.out).mono ?_
  rintro e1 w1 ⟨rfl, hb1⟩
  have HB1 := Aside0.mk (below_call (below_alloc' (Below.refl _ w) _) hb1)
  have B1 := boxc_below (boxc_new w #[.int .i64 2, .int .u64 a1_1, .int .u32 a1_2, .int .u32 a1_3, .string a1_4] 28) hb1
  have c1_0 := (boxc_cell B1 0).trans rfl
  have c1_1 := (boxc_cell B1 1).trans rfl
  have c1_2 := (boxc_cell B1 2).trans rfl
  have c1_3 := (boxc_cell B1 3).trans rfl
  have c1_4 := (boxc_cell B1 4).trans rfl
  clear hb1
  go_wp2_with fail
  refine (sphragisref09_RightRow.calls a1_1 a1_2 a1_3 a1_4 b _ A2.out).mono ?_
  rintro e2 w2 ⟨rfl, hb2⟩
  have HB2 := Aside0.mk (below_call HB1.out hb2)
  have B2 := boxc_below B1 hb2
  have c2_0 := (boxc_cell B2 0).trans rfl
  have c2_1 := (boxc_cell B2 1).trans rfl
  have c2_2 := (boxc_cell B2 2).trans rfl
  have c2_3 := (boxc_cell B2 3).trans rfl
  have c2_4 := (boxc_cell B2 4).trans rfl
  clear c1_0 c1_1 c1_2 c1_3 c1_4 hb2 B1
  go_wp2_with fail
  refine (sphragisref12_Get.calls k A0 c0 l0 a1_1 g0 g1 g2 g3 ge _ (Kd.C_below HR0.out HB2.out) hc0 A3.out).mono ?_
  rintro e3 w3 ⟨rfl, hb3⟩
  have HB3 := Aside0.mk (below_call HB2.out hb3)
  have B3 := boxc_below B2 hb3
  have c3_0 := (boxc_cell B3 0).trans rfl
  have c3_1 := (boxc_cell B3 1).trans rfl
  have c3_2 := (boxc_cell B3 2).trans rfl
  have c3_3 := (boxc_cell B3 3).trans rfl
  have c3_4 := (boxc_cell B3 4).trans rfl
  clear c2_0 c2_1 c2_2 c2_3 c2_4 hb3 B2
  have D1 := boxc_alloc B3 (.cells #[.int .u64 g0, .int .u32 g1, .int .u32 g2, .string g3] 26)
  have D2 := boxc_alloc D1 (.cells #[.int .u64 a1_1, .int .u32 a1_2, .int .u32 a1_3, .string a1_4] 26)
  have d1_0 := (boxc_cell D1 0).trans rfl
  have d2_0 := (boxc_cell D2 0).trans rfl
  have d1_1 := (boxc_cell D1 1).trans rfl
  have d2_1 := (boxc_cell D2 1).trans rfl
  have d1_2 := (boxc_cell D1 2).trans rfl
  have d2_2 := (boxc_cell D2 2).trans rfl
  have d1_3 := (boxc_cell D1 3).trans rfl
  have d2_3 := (boxc_cell D2 3).trans rfl
  have d1_4 := (boxc_cell D1 4).trans rfl
  have d2_4 := (boxc_cell D2 4).trans rfl
  have DG := boxc_alloc (boxc_new w3 #[.int .u64 g0, .int .u32 g1, .int .u32 g2, .string g3] 26) (.cells #[.int .u64 a1_1, .int .u32 a1_2, .int .u32 a1_3, .string a1_4] 26)
  have dg_0 := (boxc_cell DG 0).trans rfl
  have dg_1 := (boxc_cell DG 1).trans rfl
  have dg_2 := (boxc_cell DG 2).trans rfl
  have dg_3 := (boxc_cell DG 3).trans rfl
  have D5 := boxc_alloc D1 (.cells #[.int .u64 a1_1, .int .u32 a1_2, .int .u32 a1_3, .string g3] 26)
  have d5_0 := (boxc_cell D5 0).trans rfl
  have d5_1 := (boxc_cell D5 1).trans rfl
  have d5_2 := (boxc_cell D5 2).trans rfl
  have d5_3 := (boxc_cell D5 3).trans rfl
  have d5_4 := (boxc_cell D5 4).trans rfl
  go_wp2_with fail
  refine (sphragisref12_with.calls k A0 c0 l0 a1_1 a1_1 a1_2 a1_3 g3 true o _ (Kd.C_below HR0.out (below_alloc' (below_alloc' HB3.out _) _)) hc0 A4.out).mono ?_
  rintro e4 w4 ⟨v4, rfl, hR4, hb4⟩
  have HB4 := Aside0.mk (below_call (below_alloc' (below_alloc' HB3.out _) _) hb4)
  have HR4 := Aside0.mk (Kd.R_lower (base' := w.heap.size) hR4 (by have := HB3.out.size; simp; omega))
  obtain ⟨A4, c4, e4⟩ := Kd.R_slice HR4.out
  subst e4
  clear hR4 hb4
  go_wp2
  go_ret2
  exact ⟨_, rfl, HR4.out, HB4.out⟩

set_option maxRecDepth 100000 in
set_option maxHeartbeats 8000000 in
theorem rapply_many3 (k : Nat) (A0 : Option Addr) (c0 : Nat) (l0 : List S26) (a1_1 a1_2 a1_3 : Int) (a1_4 : ByteArray) (b : Bool) (g0 g1 g2 : Int) (g3 : ByteArray) (ge : Int) (o : List S26) (w : World) (hr0 : Kd.C k26 w A0 l0.length l0) (hc0 : l0.length ≤ c0) (A1 : Aside0 (sphragisref09_Right.f k l0 = some true)) (A2 : Aside0 (sphragisref09_RightRow.f a1_1 a1_2 a1_3 a1_4 = some b)) (A3 : Aside0 (sphragisref12_Get.f k l0 a1_1 = some (g0, g1, g2, g3, ge))) (he : (ge != 0) = false) (A4 : Aside0 (sphragisref12_with.f k l0 a1_1 a1_1 a1_2 a1_3 a1_4 false = some o)) (ho : 1000 < o.length) :
    Calls Try.prog 14 #[.slice A0 l0.length c0, .agg #[.int .i64 3, .int .u64 a1_1, .int .u32 a1_2, .int .u32 a1_3, .string a1_4]] w fun e w' => ∃ v0_ : Value, e = .returned (.tuple #[v0_, .int .i64 82]) ∧ Kd.R k26 26 w' w.heap.size (fun _ => True) v0_ [] ∧ Below w.heap.size w w' := by
  have hu28 := Try.underlying28
  have hu26 := Try.underlying26
  have HR0 := Aside0.mk hr0
  clear hr0
  have ho2 : decide (1000 < (o.length : Int)) = true := decide_eq_true (by omega)
  clear ho
  go_enter Try.func14, Try.ntmps14
  go_wp2_with fail
  refine (sphragisref09_Right.calls k A0 c0 l0 true _ (Kd.C_alloc HR0.out _) hc0 A1.out).mono ?_
  rintro e1 w1 ⟨rfl, hb1⟩
  have HB1 := Aside0.mk (below_call (below_alloc' (Below.refl _ w) _) hb1)
  have B1 := boxc_below (boxc_new w #[.int .i64 3, .int .u64 a1_1, .int .u32 a1_2, .int .u32 a1_3, .string a1_4] 28) hb1
  have c1_0 := (boxc_cell B1 0).trans rfl
  have c1_1 := (boxc_cell B1 1).trans rfl
  have c1_2 := (boxc_cell B1 2).trans rfl
  have c1_3 := (boxc_cell B1 3).trans rfl
  have c1_4 := (boxc_cell B1 4).trans rfl
  clear hb1
  go_wp2_with fail
  refine (sphragisref09_RightRow.calls a1_1 a1_2 a1_3 a1_4 b _ A2.out).mono ?_
  rintro e2 w2 ⟨rfl, hb2⟩
  have HB2 := Aside0.mk (below_call HB1.out hb2)
  have B2 := boxc_below B1 hb2
  have c2_0 := (boxc_cell B2 0).trans rfl
  have c2_1 := (boxc_cell B2 1).trans rfl
  have c2_2 := (boxc_cell B2 2).trans rfl
  have c2_3 := (boxc_cell B2 3).trans rfl
  have c2_4 := (boxc_cell B2 4).trans rfl
  clear c1_0 c1_1 c1_2 c1_3 c1_4 hb2 B1
  go_wp2_with fail
  refine (sphragisref12_Get.calls k A0 c0 l0 a1_1 g0 g1 g2 g3 ge _ (Kd.C_below HR0.out HB2.out) hc0 A3.out).mono ?_
  rintro e3 w3 ⟨rfl, hb3⟩
  have HB3 := Aside0.mk (below_call HB2.out hb3)
  have B3 := boxc_below B2 hb3
  have c3_0 := (boxc_cell B3 0).trans rfl
  have c3_1 := (boxc_cell B3 1).trans rfl
  have c3_2 := (boxc_cell B3 2).trans rfl
  have c3_3 := (boxc_cell B3 3).trans rfl
  have c3_4 := (boxc_cell B3 4).trans rfl
  clear c2_0 c2_1 c2_2 c2_3 c2_4 hb3 B2
  have D1 := boxc_alloc B3 (.cells #[.int .u64 g0, .int .u32 g1, .int .u32 g2, .string g3] 26)
  have D2 := boxc_alloc D1 (.cells #[.int .u64 a1_1, .int .u32 a1_2, .int .u32 a1_3, .string a1_4] 26)
  have d1_0 := (boxc_cell D1 0).trans rfl
  have d2_0 := (boxc_cell D2 0).trans rfl
  have d1_1 := (boxc_cell D1 1).trans rfl
  have d2_1 := (boxc_cell D2 1).trans rfl
  have d1_2 := (boxc_cell D1 2).trans rfl
  have d2_2 := (boxc_cell D2 2).trans rfl
  have d1_3 := (boxc_cell D1 3).trans rfl
  have d2_3 := (boxc_cell D2 3).trans rfl
  have d1_4 := (boxc_cell D1 4).trans rfl
  have d2_4 := (boxc_cell D2 4).trans rfl
  have DG := boxc_alloc (boxc_new w3 #[.int .u64 g0, .int .u32 g1, .int .u32 g2, .string g3] 26) (.cells #[.int .u64 a1_1, .int .u32 a1_2, .int .u32 a1_3, .string a1_4] 26)
  have dg_0 := (boxc_cell DG 0).trans rfl
  have dg_1 := (boxc_cell DG 1).trans rfl
  have dg_2 := (boxc_cell DG 2).trans rfl
  have dg_3 := (boxc_cell DG 3).trans rfl
  go_wp2_with fail
  refine (sphragisref12_with.calls k A0 c0 l0 a1_1 a1_1 a1_2 a1_3 a1_4 false o _ (Kd.C_below HR0.out (below_alloc' (below_alloc' HB3.out _) _)) hc0 A4.out).mono ?_
  rintro e4 w4 ⟨v4, rfl, hR4, hb4⟩
  have HB4 := Aside0.mk (below_call (below_alloc' (below_alloc' HB3.out _) _) hb4)
  have HR4 := Aside0.mk (Kd.R_lower (base' := w.heap.size) hR4 (by have := HB3.out.size; simp; omega))
  obtain ⟨A4, c4, e4⟩ := Kd.R_slice HR4.out
  subst e4
  clear hR4 hb4
  go_wp2
  go_ret2
  exact ⟨_, rfl, Kd.R_nil _ _ _ _ _, HB4.out⟩

set_option maxRecDepth 100000 in
set_option maxHeartbeats 8000000 in
theorem rapply_go3 (k : Nat) (A0 : Option Addr) (c0 : Nat) (l0 : List S26) (a1_1 a1_2 a1_3 : Int) (a1_4 : ByteArray) (b : Bool) (g0 g1 g2 : Int) (g3 : ByteArray) (ge : Int) (o : List S26) (w : World) (hr0 : Kd.C k26 w A0 l0.length l0) (hc0 : l0.length ≤ c0) (A1 : Aside0 (sphragisref09_Right.f k l0 = some true)) (A2 : Aside0 (sphragisref09_RightRow.f a1_1 a1_2 a1_3 a1_4 = some b)) (A3 : Aside0 (sphragisref12_Get.f k l0 a1_1 = some (g0, g1, g2, g3, ge))) (he : (ge != 0) = false) (A4 : Aside0 (sphragisref12_with.f k l0 a1_1 a1_1 a1_2 a1_3 a1_4 false = some o)) (ho : ¬ 1000 < o.length) :
    Calls Try.prog 14 #[.slice A0 l0.length c0, .agg #[.int .i64 3, .int .u64 a1_1, .int .u32 a1_2, .int .u32 a1_3, .string a1_4]] w fun e w' => ∃ v0_ : Value, e = .returned (.tuple #[v0_, .int .i64 0]) ∧ Kd.R k26 26 w' w.heap.size (fun _ => True) v0_ o ∧ Below w.heap.size w w' := by
  have hu28 := Try.underlying28
  have hu26 := Try.underlying26
  have HR0 := Aside0.mk hr0
  clear hr0
  have ho2 : decide (1000 < (o.length : Int)) = false := decide_eq_false (by omega)
  clear ho
  go_enter Try.func14, Try.ntmps14
  go_wp2_with fail
  refine (sphragisref09_Right.calls k A0 c0 l0 true _ (Kd.C_alloc HR0.out _) hc0 A1.out).mono ?_
  rintro e1 w1 ⟨rfl, hb1⟩
  have HB1 := Aside0.mk (below_call (below_alloc' (Below.refl _ w) _) hb1)
  have B1 := boxc_below (boxc_new w #[.int .i64 3, .int .u64 a1_1, .int .u32 a1_2, .int .u32 a1_3, .string a1_4] 28) hb1
  have c1_0 := (boxc_cell B1 0).trans rfl
  have c1_1 := (boxc_cell B1 1).trans rfl
  have c1_2 := (boxc_cell B1 2).trans rfl
  have c1_3 := (boxc_cell B1 3).trans rfl
  have c1_4 := (boxc_cell B1 4).trans rfl
  clear hb1
  go_wp2_with fail
  refine (sphragisref09_RightRow.calls a1_1 a1_2 a1_3 a1_4 b _ A2.out).mono ?_
  rintro e2 w2 ⟨rfl, hb2⟩
  have HB2 := Aside0.mk (below_call HB1.out hb2)
  have B2 := boxc_below B1 hb2
  have c2_0 := (boxc_cell B2 0).trans rfl
  have c2_1 := (boxc_cell B2 1).trans rfl
  have c2_2 := (boxc_cell B2 2).trans rfl
  have c2_3 := (boxc_cell B2 3).trans rfl
  have c2_4 := (boxc_cell B2 4).trans rfl
  clear c1_0 c1_1 c1_2 c1_3 c1_4 hb2 B1
  go_wp2_with fail
  refine (sphragisref12_Get.calls k A0 c0 l0 a1_1 g0 g1 g2 g3 ge _ (Kd.C_below HR0.out HB2.out) hc0 A3.out).mono ?_
  rintro e3 w3 ⟨rfl, hb3⟩
  have HB3 := Aside0.mk (below_call HB2.out hb3)
  have B3 := boxc_below B2 hb3
  have c3_0 := (boxc_cell B3 0).trans rfl
  have c3_1 := (boxc_cell B3 1).trans rfl
  have c3_2 := (boxc_cell B3 2).trans rfl
  have c3_3 := (boxc_cell B3 3).trans rfl
  have c3_4 := (boxc_cell B3 4).trans rfl
  clear c2_0 c2_1 c2_2 c2_3 c2_4 hb3 B2
  have D1 := boxc_alloc B3 (.cells #[.int .u64 g0, .int .u32 g1, .int .u32 g2, .string g3] 26)
  have D2 := boxc_alloc D1 (.cells #[.int .u64 a1_1, .int .u32 a1_2, .int .u32 a1_3, .string a1_4] 26)
  have d1_0 := (boxc_cell D1 0).trans rfl
  have d2_0 := (boxc_cell D2 0).trans rfl
  have d1_1 := (boxc_cell D1 1).trans rfl
  have d2_1 := (boxc_cell D2 1).trans rfl
  have d1_2 := (boxc_cell D1 2).trans rfl
  have d2_2 := (boxc_cell D2 2).trans rfl
  have d1_3 := (boxc_cell D1 3).trans rfl
  have d2_3 := (boxc_cell D2 3).trans rfl
  have d1_4 := (boxc_cell D1 4).trans rfl
  have d2_4 := (boxc_cell D2 4).trans rfl
  have DG := boxc_alloc (boxc_new w3 #[.int .u64 g0, .int .u32 g1, .int .u32 g2, .string g3] 26) (.cells #[.int .u64 a1_1, .int .u32 a1_2, .int .u32 a1_3, .string a1_4] 26)
  have dg_0 := (boxc_cell DG 0).trans rfl
  have dg_1 := (boxc_cell DG 1).trans rfl
  have dg_2 := (boxc_cell DG 2).trans rfl
  have dg_3 := (boxc_cell DG 3).trans rfl
  go_wp2_with fail
  refine (sphragisref12_with.calls k A0 c0 l0 a1_1 a1_1 a1_2 a1_3 a1_4 false o _ (Kd.C_below HR0.out (below_alloc' (below_alloc' HB3.out _) _)) hc0 A4.out).mono ?_
  rintro e4 w4 ⟨v4, rfl, hR4, hb4⟩
  have HB4 := Aside0.mk (below_call (below_alloc' (below_alloc' HB3.out _) _) hb4)
  have HR4 := Aside0.mk (Kd.R_lower (base' := w.heap.size) hR4 (by have := HB3.out.size; simp; omega))
  obtain ⟨A4, c4, e4⟩ := Kd.R_slice HR4.out
  subst e4
  clear hR4 hb4
  go_wp2
  go_ret2
  exact ⟨_, rfl, HR4.out, HB4.out⟩

theorem sphragisref12_Apply.calls (k : Nat) (A0 : Option Addr) (c0 : Nat) (l0 : List S26) (a1_0 a1_1 a1_2 a1_3 : Int) (a1_4 : ByteArray) (r1 : List S26) (r2 : Int) (w : World) (hr0 : Kd.C k26 w A0 l0.length l0) (hc0 : l0.length ≤ c0) (h : sphragisref12_Apply.f k l0 a1_0 a1_1 a1_2 a1_3 a1_4 = some (r1, r2)) :
    Calls Try.prog 14 #[.slice A0 l0.length c0, .agg #[.int .i64 a1_0, .int .u64 a1_1, .int .u32 a1_2, .int .u32 a1_3, .string a1_4]] w fun e w' => ∃ v0_ : Value, e = .returned (.tuple #[v0_, .int .i64 r2]) ∧ Kd.R k26 26 w' w.heap.size (fun _ => True) v0_ r1 ∧ Below w.heap.size w w' := by
  unfold sphragisref12_Apply.f at h
  obtain ⟨t, ht, h⟩ := Option.bind_eq_some_iff.1 h
  cases t with
  | false =>
    rw [if_neg Bool.false_ne_true] at h
    simp only [Option.some.injEq, Prod.mk.injEq] at h
    obtain ⟨rfl, rfl⟩ := h
    exact rapply_no k A0 c0 l0 a1_0 a1_1 a1_2 a1_3 a1_4 w hr0 hc0 ⟨ht⟩
  | true =>
    rw [if_pos rfl] at h
    by_cases hk : a1_0 < 1 ∨ 3 < a1_0
    · rw [if_pos hk] at h
      simp only [Option.some.injEq, Prod.mk.injEq] at h
      obtain ⟨rfl, rfl⟩ := h
      rcases hk with hk | hk
      · exact rapply_lo k A0 c0 l0 a1_0 a1_1 a1_2 a1_3 a1_4 w hr0 hc0 ⟨ht⟩ hk
      · exact rapply_hi k A0 c0 l0 a1_0 a1_1 a1_2 a1_3 a1_4 w hr0 hc0 ⟨ht⟩ hk
    · rw [if_neg hk] at h
      obtain ⟨b, hb, h⟩ := Option.bind_eq_some_iff.1 h
      have hk3 : a1_0 = 1 ∨ a1_0 = 2 ∨ a1_0 = 3 := by omega
      clear hk
      by_cases hx : (a1_0 = 1 ∧ b = false) ∨ (a1_0 = 2 ∧ (2147483648 ≤ a1_2 ∨ 2147483648 ≤ a1_3))
      · rw [if_pos hx] at h
        simp only [Option.some.injEq, Prod.mk.injEq] at h
        obtain ⟨rfl, rfl⟩ := h
        rcases hx with ⟨rfl, rfl⟩ | ⟨rfl, hx⟩
        · exact rapply_put k A0 c0 l0 a1_1 a1_2 a1_3 a1_4 w hr0 hc0 ⟨ht⟩ ⟨hb⟩
        · by_cases hx1 : 2147483648 ≤ a1_2
          · exact rapply_x k A0 c0 l0 a1_1 a1_2 a1_3 a1_4 b w hr0 hc0 ⟨ht⟩ ⟨hb⟩ hx1
          · exact rapply_y k A0 c0 l0 a1_1 a1_2 a1_3 a1_4 b w hr0 hc0 ⟨ht⟩ ⟨hb⟩ (by omega) (by omega)
      · rw [if_neg hx] at h
        obtain ⟨⟨g0, g1, g2, g3, ge⟩, hg, h⟩ := Option.bind_eq_some_iff.1 h
        dsimp only at h
        by_cases he : a1_0 ≠ 1 ∧ ge ≠ 0
        · rw [if_pos he] at h
          simp only [Option.some.injEq, Prod.mk.injEq] at h
          obtain ⟨rfl, rfl⟩ := h
          rcases hk3 with rfl | rfl | rfl
          · exact absurd rfl he.1
          · exact rapply_none2 k A0 c0 l0 a1_1 a1_2 a1_3 a1_4 b g0 g1 g2 g3 ge w hr0 hc0 ⟨ht⟩ ⟨hb⟩ (by omega) (by omega) ⟨hg⟩ (bne_iff_ne.2 he.2)
          · exact rapply_none3 k A0 c0 l0 a1_1 a1_2 a1_3 a1_4 b g0 g1 g2 g3 ge w hr0 hc0 ⟨ht⟩ ⟨hb⟩ ⟨hg⟩ (bne_iff_ne.2 he.2)
        · rw [if_neg he] at h
          obtain ⟨o, ho, h⟩ := Option.bind_eq_some_iff.1 h
          by_cases hl : 1000 < o.length
          · rw [if_pos hl] at h
            simp only [Option.some.injEq, Prod.mk.injEq] at h
            obtain ⟨rfl, rfl⟩ := h
            rcases hk3 with rfl | rfl | rfl
            · obtain rfl : b = true := by cases b with | true => rfl | false => exact absurd (.inl ⟨rfl, rfl⟩) hx
              exact rapply_many1 k A0 c0 l0 a1_1 a1_2 a1_3 a1_4 g0 g1 g2 g3 ge o w hr0 hc0 ⟨ht⟩ ⟨hb⟩ ⟨hg⟩ ⟨ho⟩ hl
            · exact rapply_many2 k A0 c0 l0 a1_1 a1_2 a1_3 a1_4 b g0 g1 g2 g3 ge o w hr0 hc0 ⟨ht⟩ ⟨hb⟩ (by omega) (by omega) ⟨hg⟩ (by simpa using he) ⟨ho⟩ hl
            · exact rapply_many3 k A0 c0 l0 a1_1 a1_2 a1_3 a1_4 b g0 g1 g2 g3 ge o w hr0 hc0 ⟨ht⟩ ⟨hb⟩ ⟨hg⟩ (by simpa using he) ⟨ho⟩ hl
          · rw [if_neg hl] at h
            simp only [Option.some.injEq, Prod.mk.injEq] at h
            obtain ⟨rfl, rfl⟩ := h
            rcases hk3 with rfl | rfl | rfl
            · obtain rfl : b = true := by cases b with | true => rfl | false => exact absurd (.inl ⟨rfl, rfl⟩) hx
              exact rapply_go1 k A0 c0 l0 a1_1 a1_2 a1_3 a1_4 g0 g1 g2 g3 ge o w hr0 hc0 ⟨ht⟩ ⟨hb⟩ ⟨hg⟩ ⟨ho⟩ hl
            · exact rapply_go2 k A0 c0 l0 a1_1 a1_2 a1_3 a1_4 b g0 g1 g2 g3 ge o w hr0 hc0 ⟨ht⟩ ⟨hb⟩ (by omega) (by omega) ⟨hg⟩ (by simpa using he) ⟨ho⟩ hl
            · exact rapply_go3 k A0 c0 l0 a1_1 a1_2 a1_3 a1_4 b g0 g1 g2 g3 ge o w hr0 hc0 ⟨ht⟩ ⟨hb⟩ ⟨hg⟩ (by simpa using he) ⟨ho⟩ hl

end Go.Proofs.Ytpgjbabbfnglfaa.P

-- Laid by a program of this session: the walk of functions of the translation, for this claim.
import Derived.Test.YtpgjbabbfnglfaaPx0
import Derived.Test.YtpgjbabbfnglfaaPx2
import Derived.Test.YtpgjbabbfnglfaaPx3
namespace Go.Proofs.Ytpgjbabbfnglfaa.P
open Go.RowKit Go.Proofs.YtpgjbabbfnglfaaOwn Go.Proofs.YtpgjbabbfnglfaaW.PrintWords Go.Proofs.YtpgjbabbfnglfaaW.PrintLast Go.Proofs.YtpgjbabbfnglfaaW.PrintMore
attribute [local go_sem] max2_int min2_int max_two min_two max_three min_three max_four min_four   -- for this text's walks alone
set_option linter.unusedVariables false
set_option linter.unusedSimpArgs false

/-! ### plain_Apply: function 12 -/
theorem k26_keep {w W : World} {x : S26} {cs : List Value} {base : Nat} {okp : Nat → Prop} (h : k26.K w x cs) : k26.M W base okp x cs := by
  obtain rfl := k26_open h
  exact k26_mkM _ _ _ x
theorem cut_hm (A : Option Addr) (n c : Nat) (j : Int) (h0 : 0 ≤ j) (hm : j ≤ n) (hc : n ≤ c) :
    ∀ W : World, (Instr.slice 22 (.slice A n c) none (some (.int .i64 j)) (some (.int .i64 j))).run Try.prog W = .ok (.slice A j.toNat j.toNat) W := by
  intro W
  obtain ⟨i0, hi, _, hsz, _⟩ := info_parts info26
  have hel : Try.prog.elem 22 = 26 := by simp [Program.elem, Try.underlying22]
  have hu : Try.prog.underlying 22 = some (.slice (Try.prog.elem 22)) := by rw [hel]; exact Try.underlying22
  have ha : (A.map fun x => x.add 0) = A := by cases A <;> simp [Addr.add]
  rw [run_slice_hm W 22 A n c hu .i64 .i64 j j h0 (Int.le_refl _) (by omega), hel]
  simp [sizeOf, typeInfo, hi, sliced, Result.andThen, ha]

theorem tail_cut (w : World) (A0 : Option Addr) (c0 : Nat) (l0 : List S26) (i : Nat) (j : Int) (hj : j = (i : Nat)) (hi : i ≤ l0.length) (hc0 : l0.length ≤ c0) (hr0 : Kd.C k26 w A0 l0.length l0) :
    ∃ AD, (∀ W : World, (Instr.slice 22 (.slice A0 l0.length c0) (some (.int .i64 j)) none none).run Try.prog W = .ok (.slice AD (l0.length - i) (c0 - i)) W) ∧ Kd.C k26 w AD (l0.length - i) (l0.drop i) := by
  subst hj
  obtain ⟨i0, hi0, _, hsz, _⟩ := info_parts info26
  refine ⟨_, fun W => ?_, by have := Kd.C_drop hr0 hi hc0; rw [List.length_drop] at this; exact this⟩
  have := cut_from (P := Try.prog) 22 26 .i64 Try.underlying22 hi0 4 hsz A0 l0.length c0 (i : Int) (by omega) (by omega) W
  rw [this]
  rfl

set_option maxRecDepth 100000 in
set_option maxHeartbeats 4000000 in
theorem clone_calls (A0 : Option Addr) (c0 : Nat) (l0 : List S26) (n : Nat) (hn : n = l0.length) (w : World) (hr0 : Kd.C k26 w A0 l0.length l0) (hlen : l0.length ≤ 1000) :
    Calls Try.prog 24 #[.slice A0 n c0] w fun e w' => ∃ v, e = .returned v ∧ Kd.R k26 26 w' w.heap.size (fun _ => True) v l0 ∧ Below w.heap.size w w' := by
  subst hn
  have HR0 := Aside0.mk hr0
  clear hr0
  have q22 : ∀ (w : World) (a : Option Addr) (n c n' c' : Nat), (binOp .eql 22 (.slice a n c) (.slice none n' c')).run Try.prog w = .ok (.bool a.isNone) w := fun w a n c n' c' => Lib.run_eql_slice_nil w _ _ a n c n' c' Try.underlying22
  rcases A0 with _ | ad
  · have h0 : l0 = [] := by
      rcases Nat.eq_zero_or_pos l0.length with h | h
      · exact List.eq_nil_of_length_eq_zero h
      · obtain ⟨_, h, _⟩ := HR0.out.2.2 h; cases h
    subst h0
    go_enter Try.func24, Try.ntmps24
    go_wp2
    go_ret
    exact ⟨_, rfl, Kd.R_nil _ _ _ _ _, Below.refl _ _⟩
  · go_enter Try.func24, Try.ntmps24
    go_wp2_with ((with_reducible refine gate_builtin (b := .append) (xs := #[.tmp 5, .tmp 6]) rfl ?_); at_builtin; refine Kd.R_append_rows k26 (Rr := k26.K w) (w0 := w) w.heap.size rfl (.tmp 5) (.tmp 6) 22 26 (.agg #[(.int .u64 0), (.int .u32 0), (.int .u32 0), (.string ⟨#[]⟩)]) 32 rfl Try.underlying22 info26 rfl (by decide) (by omega) (.slice (some ⟨w.heap.size, 0, none⟩) 0 0) [] l0 (some ad) l0.length c0 (fun _ => True) (fun _ => False) rfl rfl ?aO ?aR (fun x cs h => k26_keep h) (fun _ hk => hk.elim) (fun _ _ => trivial) ?aB ?aS ?aL ?_; (case aO => exact ⟨fun _ _ => trivial, [], World.ownsRow_made w #[] 0 (Nat.le_refl _) (Nat.zero_le _) rfl, Reps.none _ _⟩); (case aR => exact ReadsRow.imp_ HR0.out (below_alloc' (Below.refl _ w) _) (fun _ _ h => h)); (case aB => exact below_alloc' (Below.refl _ w) _); (case aS => simp); (case aL => simp; omega); intro v1 w1 ho hb hg hat)
    go_ret
    exact ⟨_, rfl, by simpa using ho, hb⟩

theorem ba_ext {a b : ByteArray} (h : a.toList = b.toList) : a = b := by
  rw [ByteArray.toList_eq, ByteArray.toList_eq] at h
  exact ByteArray.ext (Array.toList_inj.1 h)

/-- Is a row the same? -/
def rowEq (x : S26) (b c d : Int) (s : ByteArray) : Bool := x.f0 == b && (x.f1 == c && (x.f2 == d && (x.f3.toList == s.toList)))

theorem rowEq_all {x : S26} {b c d : Int} {s : ByteArray} (h : rowEq x b c d s = true) : x.f0 = b ∧ x.f1 = c ∧ x.f2 = d ∧ x.f3 = s := by
  unfold rowEq at h
  simp only [Bool.and_eq_true, beq_iff_eq] at h
  exact ⟨h.1, h.2.1, h.2.2.1, ba_ext h.2.2.2⟩

theorem rowEq_not {x : S26} {b c d : Int} {s : ByteArray} (h : rowEq x b c d s = false) : (x.f0 == b) = false ∨ (x.f1 == c) = false ∨ (x.f2 == d) = false ∨ (x.f3.toList == s.toList) = false := by
  unfold rowEq at h
  simpa only [Bool.and_eq_false_iff] using h


def plain_Apply.f (k : Nat) (l0 : List S26) (a1_0 a1_1 a1_2 a1_3 : Int) (a1_4 : ByteArray) : Option (List S26 × Int) :=
  (quad_Right.f k l0).bind fun t => if t = true then
    (plain_check.f a1_0 a1_1 a1_2 a1_3 a1_4).bind fun e => if e = 0 then
      (plain_place.f l0 a1_1).bind fun q =>
        if q.2 = false ∧ a1_0 ≠ 1 then some ([], 100)
        else if q.2 = false ∧ l0.length = 1000 then some ([], 82)
        else if l0.length ≤ 1000 then some (l0.take (pl l0 a1_1) ++ (if a1_0 = 3 then [] else [(⟨a1_1, a1_2, a1_3, if q.2 = true ∧ a1_0 = 2 then (rd_T26 l0 (pl l0 a1_1 : Nat)).f3 else a1_4⟩ : S26)]) ++ l0.drop (pl l0 a1_1 + (if q.2 = true then 1 else 0)), 0)
        else none
    else some ([], e)
  else some ([], 80)
theorem plain_place.at {l0 : List S26} {a1 r1 : Int} {r2 : Bool} (h : plain_place.f l0 a1 = some (r1, r2)) : r1 = (pl l0 a1 : Nat) ∧ pl l0 a1 ≤ l0.length ∧ (r2 = true → pl l0 a1 < l0.length) := by
  unfold plain_place.f at h
  split at h
  · simp only [Option.some.injEq, Prod.mk.injEq] at h
    obtain ⟨h1, h2⟩ := h
    refine ⟨h1.symm, List.countP_le_length, fun e => ?_⟩
    subst e
    simp only [Bool.and_eq_true, decide_eq_true_eq] at h2
    exact h2.1
  · exact absurd h (by simp)

set_option maxRecDepth 100000 in
set_option maxHeartbeats 8000000 in
theorem apply_no (k : Nat) (A0 : Option Addr) (c0 : Nat) (l0 : List S26) (a1_0 a1_1 a1_2 a1_3 : Int) (a1_4 : ByteArray)  (w : World) (hr0 : Kd.C k26 w A0 l0.length l0) (hc0 : l0.length ≤ c0) (A1 : Aside0 (quad_Right.f k l0 = some false)) :
    Calls Try.prog 12 #[.slice A0 l0.length c0, .agg #[.int .i64 a1_0, .int .u64 a1_1, .int .u32 a1_2, .int .u32 a1_3, .string a1_4]] w fun e w' => ∃ v0_ : Value, e = .returned (.tuple #[v0_, .int .i64 80]) ∧ Kd.R k26 26 w' w.heap.size (fun _ => True) v0_ [] ∧ Below w.heap.size w w' := by
  have hu28 := Try.underlying28
  have hu26 := Try.underlying26
  have HR0 := Aside0.mk hr0
  clear hr0
  go_enter Try.func12, Try.ntmps12
  go_wp2_with fail
  refine (quad_Right.calls k A0 c0 l0 false _ (Kd.C_alloc HR0.out _) hc0 A1.out).mono ?_
  rintro e1 w1 ⟨rfl, hb1⟩
  have HB1 := Aside0.mk (below_call (below_alloc' (Below.refl _ w) _) hb1)
  go_wp2
  go_ret2
  exact ⟨_, rfl, Kd.R_nil _ _ _ _ _, HB1.out⟩
set_option maxRecDepth 100000 in
set_option maxHeartbeats 8000000 in
theorem apply_bad (k : Nat) (A0 : Option Addr) (c0 : Nat) (l0 : List S26) (a1_0 a1_1 a1_2 a1_3 : Int) (a1_4 : ByteArray) (er : Int) (w : World) (hr0 : Kd.C k26 w A0 l0.length l0) (hc0 : l0.length ≤ c0) (A1 : Aside0 (quad_Right.f k l0 = some true)) (A2 : Aside0 (plain_check.f a1_0 a1_1 a1_2 a1_3 a1_4 = some er)) (he : er ≠ 0) :
    Calls Try.prog 12 #[.slice A0 l0.length c0, .agg #[.int .i64 a1_0, .int .u64 a1_1, .int .u32 a1_2, .int .u32 a1_3, .string a1_4]] w fun e w' => ∃ v0_ : Value, e = .returned (.tuple #[v0_, .int .i64 er]) ∧ Kd.R k26 26 w' w.heap.size (fun _ => True) v0_ [] ∧ Below w.heap.size w w' := by
  have hu28 := Try.underlying28
  have hu26 := Try.underlying26
  have HR0 := Aside0.mk hr0
  clear hr0
  have hne : (er != 0) = true := bne_iff_ne.2 he
  clear he
  go_enter Try.func12, Try.ntmps12
  go_wp2_with fail
  refine (quad_Right.calls k A0 c0 l0 true _ (Kd.C_alloc HR0.out _) hc0 A1.out).mono ?_
  rintro e1 w1 ⟨rfl, hb1⟩
  have HB1 := Aside0.mk (below_call (below_alloc' (Below.refl _ w) _) hb1)
  have B1 := boxc_below (boxc_new w #[.int .i64 a1_0, .int .u64 a1_1, .int .u32 a1_2, .int .u32 a1_3, .string a1_4] 28) hb1
  have c1_0 := (boxc_cell B1 0).trans rfl
  have c1_1 := (boxc_cell B1 1).trans rfl
  have c1_2 := (boxc_cell B1 2).trans rfl
  have c1_3 := (boxc_cell B1 3).trans rfl
  have c1_4 := (boxc_cell B1 4).trans rfl
  clear hb1
  go_wp2_with fail
  refine (plain_check.calls a1_0 a1_1 a1_2 a1_3 a1_4 er _ A2.out).mono ?_
  rintro e2 w2 ⟨rfl, hb2⟩
  have HB2 := Aside0.mk (below_call HB1.out hb2)
  go_wp2
  go_ret2
  exact ⟨_, rfl, Kd.R_nil _ _ _ _ _, HB2.out⟩
set_option maxRecDepth 100000 in
set_option maxHeartbeats 8000000 in
theorem apply_none (k : Nat) (A0 : Option Addr) (c0 : Nat) (l0 : List S26) (a1_0 a1_1 a1_2 a1_3 : Int) (a1_4 : ByteArray)  (w : World) (hr0 : Kd.C k26 w A0 l0.length l0) (hc0 : l0.length ≤ c0) (A1 : Aside0 (quad_Right.f k l0 = some true)) (A2 : Aside0 (plain_check.f a1_0 a1_1 a1_2 a1_3 a1_4 = some 0)) (A3 : Aside0 (plain_place.f l0 a1_1 = some (((pl l0 a1_1 : Nat) : Int), false))) (he : a1_0 ≠ 1) :
    Calls Try.prog 12 #[.slice A0 l0.length c0, .agg #[.int .i64 a1_0, .int .u64 a1_1, .int .u32 a1_2, .int .u32 a1_3, .string a1_4]] w fun e w' => ∃ v0_ : Value, e = .returned (.tuple #[v0_, .int .i64 100]) ∧ Kd.R k26 26 w' w.heap.size (fun _ => True) v0_ [] ∧ Below w.heap.size w w' := by
  have hu28 := Try.underlying28
  have hu26 := Try.underlying26
  have HR0 := Aside0.mk hr0
  clear hr0
  have hne : (a1_0 != 1) = true := bne_iff_ne.2 he
  clear he
  go_enter Try.func12, Try.ntmps12
  go_wp2_with fail
  refine (quad_Right.calls k A0 c0 l0 true _ (Kd.C_alloc HR0.out _) hc0 A1.out).mono ?_
  rintro e1 w1 ⟨rfl, hb1⟩
  have HB1 := Aside0.mk (below_call (below_alloc' (Below.refl _ w) _) hb1)
  have B1 := boxc_below (boxc_new w #[.int .i64 a1_0, .int .u64 a1_1, .int .u32 a1_2, .int .u32 a1_3, .string a1_4] 28) hb1
  have c1_0 := (boxc_cell B1 0).trans rfl
  have c1_1 := (boxc_cell B1 1).trans rfl
  have c1_2 := (boxc_cell B1 2).trans rfl
  have c1_3 := (boxc_cell B1 3).trans rfl
  have c1_4 := (boxc_cell B1 4).trans rfl
  clear hb1
  go_wp2_with fail
  refine (plain_check.calls a1_0 a1_1 a1_2 a1_3 a1_4 0 _ A2.out).mono ?_
  rintro e2 w2 ⟨rfl, hb2⟩
  have HB2 := Aside0.mk (below_call HB1.out hb2)
  have B2 := boxc_below B1 hb2
  have c2_0 := (boxc_cell B2 0).trans rfl
  have c2_1 := (boxc_cell B2 1).trans rfl
  have c2_2 := (boxc_cell B2 2).trans rfl
  have c2_3 := (boxc_cell B2 3).trans rfl
  have c2_4 := (boxc_cell B2 4).trans rfl
  clear c1_0 c1_1 c1_2 c1_3 c1_4 hb2 B1
  go_wp2_with fail
  refine (plain_place.calls A0 c0 l0 a1_1 (pl l0 a1_1 : Nat) false _ (Kd.C_below HR0.out (HB2.out.mono (Nat.le_refl _))) hc0 A3.out).mono ?_
  rintro e3 w3 ⟨rfl, hb3⟩
  have HB3 := Aside0.mk (below_call HB2.out hb3)
  have B3 := boxc_below B2 hb3
  have c3_0 := (boxc_cell B3 0).trans rfl
  have c3_1 := (boxc_cell B3 1).trans rfl
  have c3_2 := (boxc_cell B3 2).trans rfl
  have c3_3 := (boxc_cell B3 3).trans rfl
  have c3_4 := (boxc_cell B3 4).trans rfl
  clear c2_0 c2_1 c2_2 c2_3 c2_4 hb3
  go_wp2
  go_ret2
  exact ⟨_, rfl, Kd.R_nil _ _ _ _ _, HB3.out⟩
set_option maxRecDepth 100000 in
set_option maxHeartbeats 8000000 in
theorem apply_many (k : Nat) (A0 : Option Addr) (c0 : Nat) (l0 : List S26) (a1_1 a1_2 a1_3 : Int) (a1_4 : ByteArray)  (w : World) (hr0 : Kd.C k26 w A0 l0.length l0) (hc0 : l0.length ≤ c0) (A1 : Aside0 (quad_Right.f k l0 = some true)) (A2 : Aside0 (plain_check.f 1 a1_1 a1_2 a1_3 a1_4 = some 0)) (A3 : Aside0 (plain_place.f l0 a1_1 = some (((pl l0 a1_1 : Nat) : Int), false))) (hl : l0.length = 1000) :
    Calls Try.prog 12 #[.slice A0 l0.length c0, .agg #[.int .i64 1, .int .u64 a1_1, .int .u32 a1_2, .int .u32 a1_3, .string a1_4]] w fun e w' => ∃ v0_ : Value, e = .returned (.tuple #[v0_, .int .i64 82]) ∧ Kd.R k26 26 w' w.heap.size (fun _ => True) v0_ [] ∧ Below w.heap.size w w' := by
  have hu28 := Try.underlying28
  have hu26 := Try.underlying26
  have HR0 := Aside0.mk hr0
  clear hr0
  have hl2 : ((l0.length : Int) == 1000) = true := beq_iff_eq.2 (by omega)
  clear hl
  go_enter Try.func12, Try.ntmps12
  go_wp2_with fail
  refine (quad_Right.calls k A0 c0 l0 true _ (Kd.C_alloc HR0.out _) hc0 A1.out).mono ?_
  rintro e1 w1 ⟨rfl, hb1⟩
  have HB1 := Aside0.mk (below_call (below_alloc' (Below.refl _ w) _) hb1)
  have B1 := boxc_below (boxc_new w #[.int .i64 1, .int .u64 a1_1, .int .u32 a1_2, .int .u32 a1_3, .string a1_4] 28) hb1
  have c1_0 := (boxc_cell B1 0).trans rfl
  have c1_1 := (boxc_cell B1 1).trans rfl
  have c1_2 := (boxc_cell B1 2).trans rfl
  have c1_3 := (boxc_cell B1 3).trans rfl
  have c1_4 := (boxc_cell B1 4).trans rfl
  clear hb1
  go_wp2_with fail
  refine (plain_check.calls 1 a1_1 a1_2 a1_3 a1_4 0 _ A2.out).mono ?_
  rintro e2 w2 ⟨rfl, hb2⟩
  have HB2 := Aside0.mk (below_call HB1.out hb2)
  have B2 := boxc_below B1 hb2
  have c2_0 := (boxc_cell B2 0).trans rfl
  have c2_1 := (boxc_cell B2 1).trans rfl
  have c2_2 := (boxc_cell B2 2).trans rfl
  have c2_3 := (boxc_cell B2 3).trans rfl
  have c2_4 := (boxc_cell B2 4).trans rfl
  clear c1_0 c1_1 c1_2 c1_3 c1_4 hb2 B1
  go_wp2_with fail
  refine (plain_place.calls A0 c0 l0 a1_1 (pl l0 a1_1 : Nat) false _ (Kd.C_below HR0.out (HB2.out.mono (Nat.le_refl _))) hc0 A3.out).mono ?_
  rintro e3 w3 ⟨rfl, hb3⟩
  have HB3 := Aside0.mk (below_call HB2.out hb3)
  have B3 := boxc_below B2 hb3
  have c3_0 := (boxc_cell B3 0).trans rfl
  have c3_1 := (boxc_cell B3 1).trans rfl
  have c3_2 := (boxc_cell B3 2).trans rfl
  have c3_3 := (boxc_cell B3 3).trans rfl
  have c3_4 := (boxc_cell B3 4).trans rfl
  clear c2_0 c2_1 c2_2 c2_3 c2_4 hb3
  go_wp2
  go_ret2
  exact ⟨_, rfl, Kd.R_nil _ _ _ _ _, HB3.out⟩
set_option maxRecDepth 100000 in
set_option maxHeartbeats 8000000 in
theorem apply_put_new (k : Nat) (A0 : Option Addr) (c0 : Nat) (l0 : List S26) (a1_1 a1_2 a1_3 : Int) (a1_4 : ByteArray)  (w : World) (hr0 : Kd.C k26 w A0 l0.length l0) (hc0 : l0.length ≤ c0) (A1 : Aside0 (quad_Right.f k l0 = some true)) (A2 : Aside0 (plain_check.f 1 a1_1 a1_2 a1_3 a1_4 = some 0)) (A3 : Aside0 (plain_place.f l0 a1_1 = some (((pl l0 a1_1 : Nat) : Int), false))) (hl : l0.length ≤ 1000) (hl1 : l0.length ≠ 1000) :
    Calls Try.prog 12 #[.slice A0 l0.length c0, .agg #[.int .i64 1, .int .u64 a1_1, .int .u32 a1_2, .int .u32 a1_3, .string a1_4]] w fun e w' => ∃ v0_ : Value, e = .returned (.tuple #[v0_, .int .i64 0]) ∧ Kd.R k26 26 w' w.heap.size (fun _ => True) v0_ (l0.take (pl l0 a1_1) ++ [(⟨a1_1, a1_2, a1_3, a1_4⟩ : S26)] ++ l0.drop (pl l0 a1_1)) ∧ Below w.heap.size w w' := by
  have hu28 := Try.underlying28
  have hu26 := Try.underlying26
  have HR0 := Aside0.mk hr0
  clear hr0
  obtain ⟨_, hp1, hp2⟩ := plain_place.at A3.out
  have hl2 : ((l0.length : Int) == 1000) = false := beq_eq_false_iff_ne.2 (by omega)
  clear hl1
  have HL := Aside0.mk hl
  clear hl
  go_enter Try.func12, Try.ntmps12
  go_wp2_with fail
  refine (quad_Right.calls k A0 c0 l0 true _ (Kd.C_alloc HR0.out _) hc0 A1.out).mono ?_
  rintro e1 w1 ⟨rfl, hb1⟩
  have HB1 := Aside0.mk (below_call (below_alloc' (Below.refl _ w) _) hb1)
  have B1 := boxc_below (boxc_new w #[.int .i64 1, .int .u64 a1_1, .int .u32 a1_2, .int .u32 a1_3, .string a1_4] 28) hb1
  have c1_0 := (boxc_cell B1 0).trans rfl
  have c1_1 := (boxc_cell B1 1).trans rfl
  have c1_2 := (boxc_cell B1 2).trans rfl
  have c1_3 := (boxc_cell B1 3).trans rfl
  have c1_4 := (boxc_cell B1 4).trans rfl
  clear hb1
  go_wp2_with fail
  refine (plain_check.calls 1 a1_1 a1_2 a1_3 a1_4 0 _ A2.out).mono ?_
  rintro e2 w2 ⟨rfl, hb2⟩
  have HB2 := Aside0.mk (below_call HB1.out hb2)
  have B2 := boxc_below B1 hb2
  have c2_0 := (boxc_cell B2 0).trans rfl
  have c2_1 := (boxc_cell B2 1).trans rfl
  have c2_2 := (boxc_cell B2 2).trans rfl
  have c2_3 := (boxc_cell B2 3).trans rfl
  have c2_4 := (boxc_cell B2 4).trans rfl
  clear c1_0 c1_1 c1_2 c1_3 c1_4 hb2 B1
  go_wp2_with fail
  refine (plain_place.calls A0 c0 l0 a1_1 (pl l0 a1_1 : Nat) false _ (Kd.C_below HR0.out (HB2.out.mono (Nat.le_refl _))) hc0 A3.out).mono ?_
  rintro e3 w3 ⟨rfl, hb3⟩
  have HB3 := Aside0.mk (below_call HB2.out hb3)
  have B3 := boxc_below B2 hb3
  have c3_0 := (boxc_cell B3 0).trans rfl
  have c3_1 := (boxc_cell B3 1).trans rfl
  have c3_2 := (boxc_cell B3 2).trans rfl
  have c3_3 := (boxc_cell B3 3).trans rfl
  have c3_4 := (boxc_cell B3 4).trans rfl
  clear c2_0 c2_1 c2_2 c2_3 c2_4 hb3
  have HP := Aside0.mk hp1
  generalize hpl : pl l0 a1_1 = i at *
  have PL := Aside0.mk hpl
  clear hpl
  have hcut := cut_hm A0 l0.length c0 (i : Int) (by omega) (by omega) hc0
  simp only [Int.toNat_natCast] at hcut
  obtain ⟨AD, hcut2, hD⟩ := tail_cut w A0 c0 l0 (i) (i : Int) (by omega) (by omega) hc0 HR0.out
  have hI : (i : Int) ≤ 1000 := by have := HL.out; omega
  have HD := Aside0.mk hD
  clear hD
  go_wp2_with fail
  have HB4 : Aside0 (Below w.heap.size w (w3.alloc (.cells #[.int .u64 a1_1, .int .u32 a1_2, .int .u32 a1_3, .string a1_4] 26))) := ⟨(below_alloc' HB3.out _)⟩
  refine (clone_calls A0 i (l0.take i) i (by rw [List.length_take]; omega) (w3.alloc (.cells #[.int .u64 a1_1, .int .u32 a1_2, .int .u32 a1_3, .string a1_4] 26)) (Kd.C_take (Kd.C_below HR0.out HB4.out) hp1) (by rw [List.length_take]; have := HL.out; omega)).mono ?_
  rintro e4 w4 ⟨v4, rfl, hR4, hb4⟩
  have HB5 := Aside0.mk (below_call HB4.out hb4)
  have HR5 := Aside0.mk (Kd.R_lower hR4 HB4.out.size)
  have hz4 := HB5.out.size
  have B5 : w4.heap[w.heap.size]? = _ := (boxc_below (boxc_alloc B3 (.cells #[.int .u64 a1_1, .int .u32 a1_2, .int .u32 a1_3, .string a1_4] 26)) hb4)
  have b0 := (boxc_cell B5 0).trans rfl
  have R5 := boxc_below (boxc_new w3 #[.int .u64 a1_1, .int .u32 a1_2, .int .u32 a1_3, .string a1_4] 26) hb4
  have r0 := (boxc_cell R5 0).trans rfl
  have r1 := (boxc_cell R5 1).trans rfl
  have r2 := (boxc_cell R5 2).trans rfl
  have r3 := (boxc_cell R5 3).trans rfl
  clear hR4 hb4
  go_wp2_with (first | ((with_reducible refine gate_builtin (b := .append) (xs := #[.tmp 74, .tmp 76]) rfl ?_); at_builtin; refine Kd.R_append k26 (w0 := w) w.heap.size rfl (.tmp 74) (.tmp 76) 22 26 (.agg #[(.int .u64 0), (.int .u32 0), (.int .u32 0), (.string ⟨#[]⟩)]) 32 rfl Try.underlying22 info26 rfl (by decide) (by omega) v4 (l0.take i) (⟨a1_1, a1_2, a1_3, a1_4⟩ : S26) [.int .u64 a1_1, .int .u32 a1_2, .int .u32 a1_3, .string a1_4] (fun _ => True) (fun _ => False) rfl rfl (k26_mkM _ _ _ (⟨a1_1, a1_2, a1_3, a1_4⟩ : S26)) (fun _ hk => hk.elim) (fun _ _ => trivial) HR5.out HB5.out HB5.out.size (by rw [List.length_take]; have := HL.out; omega) ?_; intro v5 w5 ho5 hb5 hg5 hat5; have HO5 := Aside0.mk ho5; have HB6 := Aside0.mk hb5; clear ho5 hb5 hg5 hat5) | ((with_reducible refine gate_builtin (b := .append) (xs := #[.tmp 78, .tmp 81]) rfl ?_); at_builtin; refine Kd.R_append_rows k26 (Rr := k26.K w) (w0 := w) w.heap.size rfl (.tmp 78) (.tmp 81) 22 26 (.agg #[(.int .u64 0), (.int .u32 0), (.int .u32 0), (.string ⟨#[]⟩)]) 32 rfl Try.underlying22 info26 rfl (by decide) (by omega) v5 (l0.take i ++ [(⟨a1_1, a1_2, a1_3, a1_4⟩ : S26)]) (l0.drop (i)) AD (l0.length - (i)) (c0 - (i)) (fun _ => True) (fun _ => False) rfl rfl HO5.out (ReadsRow.imp_ HD.out HB6.out (fun _ _ h => h)) (fun x cs h => k26_keep h) (fun _ hk => hk.elim) (fun _ _ => trivial) HB6.out HB6.out.size (by rw [List.length_append, List.length_take, List.length_singleton]; have := HL.out; omega) ?_; intro v6 w6 ho6 hb6 hg6 hat6))
  go_ret2
  exact ⟨_, rfl, by rw [PL.out]; simpa using ho6, hb6⟩
set_option maxRecDepth 100000 in
set_option maxHeartbeats 8000000 in
theorem apply_put_old (k : Nat) (A0 : Option Addr) (c0 : Nat) (l0 : List S26) (a1_1 a1_2 a1_3 : Int) (a1_4 : ByteArray)  (w : World) (hr0 : Kd.C k26 w A0 l0.length l0) (hc0 : l0.length ≤ c0) (A1 : Aside0 (quad_Right.f k l0 = some true)) (A2 : Aside0 (plain_check.f 1 a1_1 a1_2 a1_3 a1_4 = some 0)) (A3 : Aside0 (plain_place.f l0 a1_1 = some (((pl l0 a1_1 : Nat) : Int), true))) (hl : l0.length ≤ 1000) :
    Calls Try.prog 12 #[.slice A0 l0.length c0, .agg #[.int .i64 1, .int .u64 a1_1, .int .u32 a1_2, .int .u32 a1_3, .string a1_4]] w fun e w' => ∃ v0_ : Value, e = .returned (.tuple #[v0_, .int .i64 0]) ∧ Kd.R k26 26 w' w.heap.size (fun _ => True) v0_ (l0.take (pl l0 a1_1) ++ [(⟨a1_1, a1_2, a1_3, a1_4⟩ : S26)] ++ l0.drop (pl l0 a1_1 + 1)) ∧ Below w.heap.size w w' := by
  have hu28 := Try.underlying28
  have hu26 := Try.underlying26
  have HR0 := Aside0.mk hr0
  clear hr0
  obtain ⟨_, hp1, hp2⟩ := plain_place.at A3.out
  replace hp2 := hp2 rfl
  have HL := Aside0.mk hl
  clear hl
  go_enter Try.func12, Try.ntmps12
  go_wp2_with fail
  refine (quad_Right.calls k A0 c0 l0 true _ (Kd.C_alloc HR0.out _) hc0 A1.out).mono ?_
  rintro e1 w1 ⟨rfl, hb1⟩
  have HB1 := Aside0.mk (below_call (below_alloc' (Below.refl _ w) _) hb1)
  have B1 := boxc_below (boxc_new w #[.int .i64 1, .int .u64 a1_1, .int .u32 a1_2, .int .u32 a1_3, .string a1_4] 28) hb1
  have c1_0 := (boxc_cell B1 0).trans rfl
  have c1_1 := (boxc_cell B1 1).trans rfl
  have c1_2 := (boxc_cell B1 2).trans rfl
  have c1_3 := (boxc_cell B1 3).trans rfl
  have c1_4 := (boxc_cell B1 4).trans rfl
  clear hb1
  go_wp2_with fail
  refine (plain_check.calls 1 a1_1 a1_2 a1_3 a1_4 0 _ A2.out).mono ?_
  rintro e2 w2 ⟨rfl, hb2⟩
  have HB2 := Aside0.mk (below_call HB1.out hb2)
  have B2 := boxc_below B1 hb2
  have c2_0 := (boxc_cell B2 0).trans rfl
  have c2_1 := (boxc_cell B2 1).trans rfl
  have c2_2 := (boxc_cell B2 2).trans rfl
  have c2_3 := (boxc_cell B2 3).trans rfl
  have c2_4 := (boxc_cell B2 4).trans rfl
  clear c1_0 c1_1 c1_2 c1_3 c1_4 hb2 B1
  go_wp2_with fail
  refine (plain_place.calls A0 c0 l0 a1_1 (pl l0 a1_1 : Nat) true _ (Kd.C_below HR0.out (HB2.out.mono (Nat.le_refl _))) hc0 A3.out).mono ?_
  rintro e3 w3 ⟨rfl, hb3⟩
  have HB3 := Aside0.mk (below_call HB2.out hb3)
  have B3 := boxc_below B2 hb3
  have c3_0 := (boxc_cell B3 0).trans rfl
  have c3_1 := (boxc_cell B3 1).trans rfl
  have c3_2 := (boxc_cell B3 2).trans rfl
  have c3_3 := (boxc_cell B3 3).trans rfl
  have c3_4 := (boxc_cell B3 4).trans rfl
  clear c2_0 c2_1 c2_2 c2_3 c2_4 hb3
  have HP := Aside0.mk hp1
  generalize hpl : pl l0 a1_1 = i at *
  have PL := Aside0.mk hpl
  clear hpl
  have hcut := cut_hm A0 l0.length c0 (i : Int) (by omega) (by omega) hc0
  obtain ⟨ad, e, x0, x1, x2, x3⟩ := at_T26 HR0.out (i : Int) (by omega) (by omega)
  cases e
  replace x0 := ((show Below w.heap.size w (w3.alloc (.cells #[.int .u64 a1_1, .int .u32 a1_2, .int .u32 a1_3, .string a1_4] 26)) from below_alloc' HB3.out _).cell (World.block_lt_of_cell? w _ x0)).trans x0
  replace x1 := ((show Below w.heap.size w (w3.alloc (.cells #[.int .u64 a1_1, .int .u32 a1_2, .int .u32 a1_3, .string a1_4] 26)) from below_alloc' HB3.out _).cell (World.block_lt_of_cell? w _ x1)).trans x1
  replace x2 := ((show Below w.heap.size w (w3.alloc (.cells #[.int .u64 a1_1, .int .u32 a1_2, .int .u32 a1_3, .string a1_4] 26)) from below_alloc' HB3.out _).cell (World.block_lt_of_cell? w _ x2)).trans x2
  replace x3 := ((show Below w.heap.size w (w3.alloc (.cells #[.int .u64 a1_1, .int .u32 a1_2, .int .u32 a1_3, .string a1_4] 26)) from below_alloc' HB3.out _).cell (World.block_lt_of_cell? w _ x3)).trans x3
  generalize hy : rd_T26 l0 (i : Int) = y at *
  have Y := Aside0.mk hy
  clear hy
  simp only [Int.toNat_natCast] at x0 x1 x2 x3
  simp only [Int.toNat_natCast] at hcut
  obtain ⟨AD, hcut2, hD⟩ := tail_cut w (some ad) c0 l0 (i + 1) ((i : Int) + 1) (by omega) (by omega) hc0 HR0.out
  have hI : (i : Int) ≤ 1000 := by have := HL.out; omega
  have D3 := boxc_alloc (boxc_alloc B3 (.cells #[.int .u64 a1_1, .int .u32 a1_2, .int .u32 a1_3, .string a1_4] 26)) (.cells #[.int .u64 y.f0, .int .u32 y.f1, .int .u32 y.f2, .string y.f3] 26)
  have d3_0 := (boxc_cell D3 0).trans rfl
  have d3_1 := (boxc_cell D3 1).trans rfl
  have d3_2 := (boxc_cell D3 2).trans rfl
  have d3_3 := (boxc_cell D3 3).trans rfl
  have d3_4 := (boxc_cell D3 4).trans rfl
  have DR := boxc_alloc (boxc_new w3 #[.int .u64 a1_1, .int .u32 a1_2, .int .u32 a1_3, .string a1_4] 26) (.cells #[.int .u64 y.f0, .int .u32 y.f1, .int .u32 y.f2, .string y.f3] 26)
  have dr_0 := (boxc_cell DR 0).trans rfl
  have dr_1 := (boxc_cell DR 1).trans rfl
  have dr_2 := (boxc_cell DR 2).trans rfl
  have dr_3 := (boxc_cell DR 3).trans rfl
  have hfr := boxc_frozen DR 3
  have DY := boxc_new (w3.alloc (.cells #[.int .u64 a1_1, .int .u32 a1_2, .int .u32 a1_3, .string a1_4] 26)) #[.int .u64 y.f0, .int .u32 y.f1, .int .u32 y.f2, .string y.f3] 26
  have dyz : (w3.alloc (.cells #[.int .u64 a1_1, .int .u32 a1_2, .int .u32 a1_3, .string a1_4] 26)).heap.size = w3.heap.size + 1 := by simp
  rw [dyz] at DY
  have dy_0 := (boxc_cell DY 0).trans rfl
  have dy_1 := (boxc_cell DY 1).trans rfl
  have dy_2 := (boxc_cell DY 2).trans rfl
  have dy_3 := (boxc_cell DY 3).trans rfl
  have HD := Aside0.mk hD
  clear hD
  go_wp2_with fail
  have HB4 : Aside0 (Below w.heap.size w ((w3.alloc (.cells #[.int .u64 a1_1, .int .u32 a1_2, .int .u32 a1_3, .string a1_4] 26)).alloc (.cells #[.int .u64 y.f0, .int .u32 y.f1, .int .u32 y.f2, .string y.f3] 26))) := ⟨(below_alloc' (below_alloc' HB3.out _) _)⟩
  refine (clone_calls (some ad) i (l0.take i) i (by rw [List.length_take]; omega) ((w3.alloc (.cells #[.int .u64 a1_1, .int .u32 a1_2, .int .u32 a1_3, .string a1_4] 26)).alloc (.cells #[.int .u64 y.f0, .int .u32 y.f1, .int .u32 y.f2, .string y.f3] 26)) (Kd.C_take (Kd.C_below HR0.out HB4.out) hp1) (by rw [List.length_take]; have := HL.out; omega)).mono ?_
  rintro e4 w4 ⟨v4, rfl, hR4, hb4⟩
  have HB5 := Aside0.mk (below_call HB4.out hb4)
  have HR5 := Aside0.mk (Kd.R_lower hR4 HB4.out.size)
  have hz4 := HB5.out.size
  have B5 : w4.heap[w.heap.size]? = _ := (boxc_below (boxc_alloc (boxc_alloc B3 (.cells #[.int .u64 a1_1, .int .u32 a1_2, .int .u32 a1_3, .string a1_4] 26)) (.cells #[.int .u64 y.f0, .int .u32 y.f1, .int .u32 y.f2, .string y.f3] 26)) hb4)
  have b0 := (boxc_cell B5 0).trans rfl
  have R5 := boxc_below (boxc_alloc (boxc_new w3 #[.int .u64 a1_1, .int .u32 a1_2, .int .u32 a1_3, .string a1_4] 26) (.cells #[.int .u64 y.f0, .int .u32 y.f1, .int .u32 y.f2, .string y.f3] 26)) hb4
  have r0 := (boxc_cell R5 0).trans rfl
  have r1 := (boxc_cell R5 1).trans rfl
  have r2 := (boxc_cell R5 2).trans rfl
  have r3 := (boxc_cell R5 3).trans rfl
  clear hR4 hb4
  go_wp2_with (first | ((with_reducible refine gate_builtin (b := .append) (xs := #[.tmp 74, .tmp 76]) rfl ?_); at_builtin; refine Kd.R_append k26 (w0 := w) w.heap.size rfl (.tmp 74) (.tmp 76) 22 26 (.agg #[(.int .u64 0), (.int .u32 0), (.int .u32 0), (.string ⟨#[]⟩)]) 32 rfl Try.underlying22 info26 rfl (by decide) (by omega) v4 (l0.take i) (⟨a1_1, a1_2, a1_3, a1_4⟩ : S26) [.int .u64 a1_1, .int .u32 a1_2, .int .u32 a1_3, .string a1_4] (fun _ => True) (fun _ => False) rfl rfl (k26_mkM _ _ _ (⟨a1_1, a1_2, a1_3, a1_4⟩ : S26)) (fun _ hk => hk.elim) (fun _ _ => trivial) HR5.out HB5.out HB5.out.size (by rw [List.length_take]; have := HL.out; omega) ?_; intro v5 w5 ho5 hb5 hg5 hat5; have HO5 := Aside0.mk ho5; have HB6 := Aside0.mk hb5; clear ho5 hb5 hg5 hat5) | ((with_reducible refine gate_builtin (b := .append) (xs := #[.tmp 78, .tmp 81]) rfl ?_); at_builtin; refine Kd.R_append_rows k26 (Rr := k26.K w) (w0 := w) w.heap.size rfl (.tmp 78) (.tmp 81) 22 26 (.agg #[(.int .u64 0), (.int .u32 0), (.int .u32 0), (.string ⟨#[]⟩)]) 32 rfl Try.underlying22 info26 rfl (by decide) (by omega) v5 (l0.take i ++ [(⟨a1_1, a1_2, a1_3, a1_4⟩ : S26)]) (l0.drop (i + 1)) AD (l0.length - (i + 1)) (c0 - (i + 1)) (fun _ => True) (fun _ => False) rfl rfl HO5.out (ReadsRow.imp_ HD.out HB6.out (fun _ _ h => h)) (fun x cs h => k26_keep h) (fun _ hk => hk.elim) (fun _ _ => trivial) HB6.out HB6.out.size (by rw [List.length_append, List.length_take, List.length_singleton]; have := HL.out; omega) ?_; intro v6 w6 ho6 hb6 hg6 hat6))
  go_ret2
  exact ⟨_, rfl, by rw [PL.out]; simpa using ho6, hb6⟩
set_option maxRecDepth 100000 in
set_option maxHeartbeats 8000000 in
theorem apply_delete (k : Nat) (A0 : Option Addr) (c0 : Nat) (l0 : List S26) (a1_1 a1_2 a1_3 : Int) (a1_4 : ByteArray)  (w : World) (hr0 : Kd.C k26 w A0 l0.length l0) (hc0 : l0.length ≤ c0) (A1 : Aside0 (quad_Right.f k l0 = some true)) (A2 : Aside0 (plain_check.f 3 a1_1 a1_2 a1_3 a1_4 = some 0)) (A3 : Aside0 (plain_place.f l0 a1_1 = some (((pl l0 a1_1 : Nat) : Int), true))) (hl : l0.length ≤ 1000) :
    Calls Try.prog 12 #[.slice A0 l0.length c0, .agg #[.int .i64 3, .int .u64 a1_1, .int .u32 a1_2, .int .u32 a1_3, .string a1_4]] w fun e w' => ∃ v0_ : Value, e = .returned (.tuple #[v0_, .int .i64 0]) ∧ Kd.R k26 26 w' w.heap.size (fun _ => True) v0_ (l0.take (pl l0 a1_1) ++ l0.drop (pl l0 a1_1 + 1)) ∧ Below w.heap.size w w' := by
  have hu28 := Try.underlying28
  have hu26 := Try.underlying26
  have HR0 := Aside0.mk hr0
  clear hr0
  obtain ⟨_, hp1, hp2⟩ := plain_place.at A3.out
  replace hp2 := hp2 rfl
  have HL := Aside0.mk hl
  clear hl
  go_enter Try.func12, Try.ntmps12
  go_wp2_with fail
  refine (quad_Right.calls k A0 c0 l0 true _ (Kd.C_alloc HR0.out _) hc0 A1.out).mono ?_
  rintro e1 w1 ⟨rfl, hb1⟩
  have HB1 := Aside0.mk (below_call (below_alloc' (Below.refl _ w) _) hb1)
  have B1 := boxc_below (boxc_new w #[.int .i64 3, .int .u64 a1_1, .int .u32 a1_2, .int .u32 a1_3, .string a1_4] 28) hb1
  have c1_0 := (boxc_cell B1 0).trans rfl
  have c1_1 := (boxc_cell B1 1).trans rfl
  have c1_2 := (boxc_cell B1 2).trans rfl
  have c1_3 := (boxc_cell B1 3).trans rfl
  have c1_4 := (boxc_cell B1 4).trans rfl
  clear hb1
  go_wp2_with fail
  refine (plain_check.calls 3 a1_1 a1_2 a1_3 a1_4 0 _ A2.out).mono ?_
  rintro e2 w2 ⟨rfl, hb2⟩
  have HB2 := Aside0.mk (below_call HB1.out hb2)
  have B2 := boxc_below B1 hb2
  have c2_0 := (boxc_cell B2 0).trans rfl
  have c2_1 := (boxc_cell B2 1).trans rfl
  have c2_2 := (boxc_cell B2 2).trans rfl
  have c2_3 := (boxc_cell B2 3).trans rfl
  have c2_4 := (boxc_cell B2 4).trans rfl
  clear c1_0 c1_1 c1_2 c1_3 c1_4 hb2 B1
  go_wp2_with fail
  refine (plain_place.calls A0 c0 l0 a1_1 (pl l0 a1_1 : Nat) true _ (Kd.C_below HR0.out (HB2.out.mono (Nat.le_refl _))) hc0 A3.out).mono ?_
  rintro e3 w3 ⟨rfl, hb3⟩
  have HB3 := Aside0.mk (below_call HB2.out hb3)
  have B3 := boxc_below B2 hb3
  have c3_0 := (boxc_cell B3 0).trans rfl
  have c3_1 := (boxc_cell B3 1).trans rfl
  have c3_2 := (boxc_cell B3 2).trans rfl
  have c3_3 := (boxc_cell B3 3).trans rfl
  have c3_4 := (boxc_cell B3 4).trans rfl
  clear c2_0 c2_1 c2_2 c2_3 c2_4 hb3
  have HP := Aside0.mk hp1
  generalize hpl : pl l0 a1_1 = i at *
  have PL := Aside0.mk hpl
  clear hpl
  have hcut := cut_hm A0 l0.length c0 (i : Int) (by omega) (by omega) hc0
  obtain ⟨ad, e, x0, x1, x2, x3⟩ := at_T26 HR0.out (i : Int) (by omega) (by omega)
  cases e
  replace x0 := ((show Below w.heap.size w (w3.alloc (.cells #[.int .u64 a1_1, .int .u32 a1_2, .int .u32 a1_3, .string a1_4] 26)) from below_alloc' HB3.out _).cell (World.block_lt_of_cell? w _ x0)).trans x0
  replace x1 := ((show Below w.heap.size w (w3.alloc (.cells #[.int .u64 a1_1, .int .u32 a1_2, .int .u32 a1_3, .string a1_4] 26)) from below_alloc' HB3.out _).cell (World.block_lt_of_cell? w _ x1)).trans x1
  replace x2 := ((show Below w.heap.size w (w3.alloc (.cells #[.int .u64 a1_1, .int .u32 a1_2, .int .u32 a1_3, .string a1_4] 26)) from below_alloc' HB3.out _).cell (World.block_lt_of_cell? w _ x2)).trans x2
  replace x3 := ((show Below w.heap.size w (w3.alloc (.cells #[.int .u64 a1_1, .int .u32 a1_2, .int .u32 a1_3, .string a1_4] 26)) from below_alloc' HB3.out _).cell (World.block_lt_of_cell? w _ x3)).trans x3
  generalize hy : rd_T26 l0 (i : Int) = y at *
  have Y := Aside0.mk hy
  clear hy
  simp only [Int.toNat_natCast] at x0 x1 x2 x3
  simp only [Int.toNat_natCast] at hcut
  obtain ⟨AD, hcut2, hD⟩ := tail_cut w (some ad) c0 l0 (i + 1) ((i : Int) + 1) (by omega) (by omega) hc0 HR0.out
  have hI : (i : Int) ≤ 1000 := by have := HL.out; omega
  have D3 := boxc_alloc (boxc_alloc B3 (.cells #[.int .u64 a1_1, .int .u32 a1_2, .int .u32 a1_3, .string a1_4] 26)) (.cells #[.int .u64 y.f0, .int .u32 y.f1, .int .u32 y.f2, .string y.f3] 26)
  have d3_0 := (boxc_cell D3 0).trans rfl
  have d3_1 := (boxc_cell D3 1).trans rfl
  have d3_2 := (boxc_cell D3 2).trans rfl
  have d3_3 := (boxc_cell D3 3).trans rfl
  have d3_4 := (boxc_cell D3 4).trans rfl
  have DR := boxc_alloc (boxc_new w3 #[.int .u64 a1_1, .int .u32 a1_2, .int .u32 a1_3, .string a1_4] 26) (.cells #[.int .u64 y.f0, .int .u32 y.f1, .int .u32 y.f2, .string y.f3] 26)
  have dr_0 := (boxc_cell DR 0).trans rfl
  have dr_1 := (boxc_cell DR 1).trans rfl
  have dr_2 := (boxc_cell DR 2).trans rfl
  have dr_3 := (boxc_cell DR 3).trans rfl
  have hfr := boxc_frozen DR 3
  have DY := boxc_new (w3.alloc (.cells #[.int .u64 a1_1, .int .u32 a1_2, .int .u32 a1_3, .string a1_4] 26)) #[.int .u64 y.f0, .int .u32 y.f1, .int .u32 y.f2, .string y.f3] 26
  have dyz : (w3.alloc (.cells #[.int .u64 a1_1, .int .u32 a1_2, .int .u32 a1_3, .string a1_4] 26)).heap.size = w3.heap.size + 1 := by simp
  rw [dyz] at DY
  have dy_0 := (boxc_cell DY 0).trans rfl
  have dy_1 := (boxc_cell DY 1).trans rfl
  have dy_2 := (boxc_cell DY 2).trans rfl
  have dy_3 := (boxc_cell DY 3).trans rfl
  have HD := Aside0.mk hD
  clear hD
  go_wp2_with fail
  have HB4 : Aside0 (Below w.heap.size w ((w3.alloc (.cells #[.int .u64 a1_1, .int .u32 a1_2, .int .u32 a1_3, .string a1_4] 26)).alloc (.cells #[.int .u64 y.f0, .int .u32 y.f1, .int .u32 y.f2, .string y.f3] 26))) := ⟨(below_alloc' (below_alloc' HB3.out _) _)⟩
  refine (clone_calls (some ad) i (l0.take i) i (by rw [List.length_take]; omega) ((w3.alloc (.cells #[.int .u64 a1_1, .int .u32 a1_2, .int .u32 a1_3, .string a1_4] 26)).alloc (.cells #[.int .u64 y.f0, .int .u32 y.f1, .int .u32 y.f2, .string y.f3] 26)) (Kd.C_take (Kd.C_below HR0.out HB4.out) hp1) (by rw [List.length_take]; have := HL.out; omega)).mono ?_
  rintro e4 w4 ⟨v4, rfl, hR4, hb4⟩
  have HB5 := Aside0.mk (below_call HB4.out hb4)
  have HR5 := Aside0.mk (Kd.R_lower hR4 HB4.out.size)
  have hz4 := HB5.out.size
  have B5 : w4.heap[w.heap.size]? = _ := (boxc_below (boxc_alloc (boxc_alloc B3 (.cells #[.int .u64 a1_1, .int .u32 a1_2, .int .u32 a1_3, .string a1_4] 26)) (.cells #[.int .u64 y.f0, .int .u32 y.f1, .int .u32 y.f2, .string y.f3] 26)) hb4)
  have b0 := (boxc_cell B5 0).trans rfl
  clear hR4 hb4
  go_wp2_with (first | ((with_reducible refine gate_builtin (b := .append) (xs := #[.tmp 78, .tmp 81]) rfl ?_); at_builtin; refine Kd.R_append_rows k26 (Rr := k26.K w) (w0 := w) w.heap.size rfl (.tmp 78) (.tmp 81) 22 26 (.agg #[(.int .u64 0), (.int .u32 0), (.int .u32 0), (.string ⟨#[]⟩)]) 32 rfl Try.underlying22 info26 rfl (by decide) (by omega) v4 (l0.take i) (l0.drop (i + 1)) AD (l0.length - (i + 1)) (c0 - (i + 1)) (fun _ => True) (fun _ => False) rfl rfl HR5.out (ReadsRow.imp_ HD.out HB5.out (fun _ _ h => h)) (fun x cs h => k26_keep h) (fun _ hk => hk.elim) (fun _ _ => trivial) HB5.out HB5.out.size (by rw [List.length_take]; have := HL.out; omega) ?_; intro v6 w6 ho6 hb6 hg6 hat6))
  go_ret2
  exact ⟨_, rfl, by rw [PL.out]; simpa using ho6, hb6⟩
set_option maxRecDepth 100000 in
set_option maxHeartbeats 8000000 in
theorem apply_move_same (k : Nat) (A0 : Option Addr) (c0 : Nat) (l0 : List S26) (a1_1 a1_2 a1_3 : Int) (a1_4 : ByteArray)  (w : World) (hr0 : Kd.C k26 w A0 l0.length l0) (hc0 : l0.length ≤ c0) (A1 : Aside0 (quad_Right.f k l0 = some true)) (A2 : Aside0 (plain_check.f 2 a1_1 a1_2 a1_3 a1_4 = some 0)) (A3 : Aside0 (plain_place.f l0 a1_1 = some (((pl l0 a1_1 : Nat) : Int), true))) (hl : l0.length ≤ 1000) (hs : rowEq (rd_T26 l0 ((pl l0 a1_1 : Nat) : Int)) a1_1 a1_2 a1_3 a1_4 = true) :
    Calls Try.prog 12 #[.slice A0 l0.length c0, .agg #[.int .i64 2, .int .u64 a1_1, .int .u32 a1_2, .int .u32 a1_3, .string a1_4]] w fun e w' => ∃ v0_ : Value, e = .returned (.tuple #[v0_, .int .i64 0]) ∧ Kd.R k26 26 w' w.heap.size (fun _ => True) v0_ (l0.take (pl l0 a1_1) ++ [(⟨a1_1, a1_2, a1_3, a1_4⟩ : S26)] ++ l0.drop (pl l0 a1_1 + 1)) ∧ Below w.heap.size w w' := by
  have hu28 := Try.underlying28
  have hu26 := Try.underlying26
  have HR0 := Aside0.mk hr0
  clear hr0
  obtain ⟨_, hp1, hp2⟩ := plain_place.at A3.out
  replace hp2 := hp2 rfl
  have HL := Aside0.mk hl
  clear hl
  have HSm := Aside0.mk hs
  clear hs
  go_enter Try.func12, Try.ntmps12
  go_wp2_with fail
  refine (quad_Right.calls k A0 c0 l0 true _ (Kd.C_alloc HR0.out _) hc0 A1.out).mono ?_
  rintro e1 w1 ⟨rfl, hb1⟩
  have HB1 := Aside0.mk (below_call (below_alloc' (Below.refl _ w) _) hb1)
  have B1 := boxc_below (boxc_new w #[.int .i64 2, .int .u64 a1_1, .int .u32 a1_2, .int .u32 a1_3, .string a1_4] 28) hb1
  have c1_0 := (boxc_cell B1 0).trans rfl
  have c1_1 := (boxc_cell B1 1).trans rfl
  have c1_2 := (boxc_cell B1 2).trans rfl
  have c1_3 := (boxc_cell B1 3).trans rfl
  have c1_4 := (boxc_cell B1 4).trans rfl
  clear hb1
  go_wp2_with fail
  refine (plain_check.calls 2 a1_1 a1_2 a1_3 a1_4 0 _ A2.out).mono ?_
  rintro e2 w2 ⟨rfl, hb2⟩
  have HB2 := Aside0.mk (below_call HB1.out hb2)
  have B2 := boxc_below B1 hb2
  have c2_0 := (boxc_cell B2 0).trans rfl
  have c2_1 := (boxc_cell B2 1).trans rfl
  have c2_2 := (boxc_cell B2 2).trans rfl
  have c2_3 := (boxc_cell B2 3).trans rfl
  have c2_4 := (boxc_cell B2 4).trans rfl
  clear c1_0 c1_1 c1_2 c1_3 c1_4 hb2 B1
  go_wp2_with fail
  refine (plain_place.calls A0 c0 l0 a1_1 (pl l0 a1_1 : Nat) true _ (Kd.C_below HR0.out (HB2.out.mono (Nat.le_refl _))) hc0 A3.out).mono ?_
  rintro e3 w3 ⟨rfl, hb3⟩
  have HB3 := Aside0.mk (below_call HB2.out hb3)
  have B3 := boxc_below B2 hb3
  have c3_0 := (boxc_cell B3 0).trans rfl
  have c3_1 := (boxc_cell B3 1).trans rfl
  have c3_2 := (boxc_cell B3 2).trans rfl
  have c3_3 := (boxc_cell B3 3).trans rfl
  have c3_4 := (boxc_cell B3 4).trans rfl
  clear c2_0 c2_1 c2_2 c2_3 c2_4 hb3
  have HP := Aside0.mk hp1
  generalize hpl : pl l0 a1_1 = i at *
  have PL := Aside0.mk hpl
  clear hpl
  have hcut := cut_hm A0 l0.length c0 (i : Int) (by omega) (by omega) hc0
  obtain ⟨ad, e, x0, x1, x2, x3⟩ := at_T26 HR0.out (i : Int) (by omega) (by omega)
  cases e
  replace x0 := ((show Below w.heap.size w (w3.alloc (.cells #[.int .u64 a1_1, .int .u32 a1_2, .int .u32 a1_3, .string a1_4] 26)) from below_alloc' HB3.out _).cell (World.block_lt_of_cell? w _ x0)).trans x0
  replace x1 := ((show Below w.heap.size w (w3.alloc (.cells #[.int .u64 a1_1, .int .u32 a1_2, .int .u32 a1_3, .string a1_4] 26)) from below_alloc' HB3.out _).cell (World.block_lt_of_cell? w _ x1)).trans x1
  replace x2 := ((show Below w.heap.size w (w3.alloc (.cells #[.int .u64 a1_1, .int .u32 a1_2, .int .u32 a1_3, .string a1_4] 26)) from below_alloc' HB3.out _).cell (World.block_lt_of_cell? w _ x2)).trans x2
  replace x3 := ((show Below w.heap.size w (w3.alloc (.cells #[.int .u64 a1_1, .int .u32 a1_2, .int .u32 a1_3, .string a1_4] 26)) from below_alloc' HB3.out _).cell (World.block_lt_of_cell? w _ x3)).trans x3
  generalize hy : rd_T26 l0 (i : Int) = y at *
  have Y := Aside0.mk hy
  clear hy
  simp only [Int.toNat_natCast] at x0 x1 x2 x3
  simp only [Int.toNat_natCast] at hcut
  obtain ⟨q0, q1, q2, q3⟩ := rowEq_all HSm.out
  rw [q0] at x0; rw [q1] at x1; rw [q2] at x2; rw [q3] at x3
  clear q0 q1 q2 q3
  obtain ⟨AD, hcut2, hD⟩ := tail_cut w (some ad) c0 l0 (i + 1) ((i : Int) + 1) (by omega) (by omega) hc0 HR0.out
  have hI : (i : Int) ≤ 1000 := by have := HL.out; omega
  have D3 := boxc_alloc (boxc_alloc B3 (.cells #[.int .u64 a1_1, .int .u32 a1_2, .int .u32 a1_3, .string a1_4] 26)) (.cells #[.int .u64 a1_1, .int .u32 a1_2, .int .u32 a1_3, .string a1_4] 26)
  have d3_0 := (boxc_cell D3 0).trans rfl
  have d3_1 := (boxc_cell D3 1).trans rfl
  have d3_2 := (boxc_cell D3 2).trans rfl
  have d3_3 := (boxc_cell D3 3).trans rfl
  have d3_4 := (boxc_cell D3 4).trans rfl
  have DR := boxc_alloc (boxc_new w3 #[.int .u64 a1_1, .int .u32 a1_2, .int .u32 a1_3, .string a1_4] 26) (.cells #[.int .u64 a1_1, .int .u32 a1_2, .int .u32 a1_3, .string a1_4] 26)
  have dr_0 := (boxc_cell DR 0).trans rfl
  have dr_1 := (boxc_cell DR 1).trans rfl
  have dr_2 := (boxc_cell DR 2).trans rfl
  have dr_3 := (boxc_cell DR 3).trans rfl
  have hfr := boxc_frozen DR 3
  have DY := boxc_new (w3.alloc (.cells #[.int .u64 a1_1, .int .u32 a1_2, .int .u32 a1_3, .string a1_4] 26)) #[.int .u64 a1_1, .int .u32 a1_2, .int .u32 a1_3, .string a1_4] 26
  have dyz : (w3.alloc (.cells #[.int .u64 a1_1, .int .u32 a1_2, .int .u32 a1_3, .string a1_4] 26)).heap.size = w3.heap.size + 1 := by simp
  rw [dyz] at DY
  have dy_0 := (boxc_cell DY 0).trans rfl
  have dy_1 := (boxc_cell DY 1).trans rfl
  have dy_2 := (boxc_cell DY 2).trans rfl
  have dy_3 := (boxc_cell DY 3).trans rfl
  have HD := Aside0.mk hD
  clear hD
  go_wp2_with fail
  have HB4 : Aside0 (Below w.heap.size w ((w3.alloc (.cells #[.int .u64 a1_1, .int .u32 a1_2, .int .u32 a1_3, .string a1_4] 26)).alloc (.cells #[.int .u64 a1_1, .int .u32 a1_2, .int .u32 a1_3, .string a1_4] 26))) := ⟨(below_alloc' (below_alloc' HB3.out _) _)⟩
  refine (clone_calls (some ad) i (l0.take i) i (by rw [List.length_take]; omega) ((w3.alloc (.cells #[.int .u64 a1_1, .int .u32 a1_2, .int .u32 a1_3, .string a1_4] 26)).alloc (.cells #[.int .u64 a1_1, .int .u32 a1_2, .int .u32 a1_3, .string a1_4] 26)) (Kd.C_take (Kd.C_below HR0.out HB4.out) hp1) (by rw [List.length_take]; have := HL.out; omega)).mono ?_
  rintro e4 w4 ⟨v4, rfl, hR4, hb4⟩
  have HB5 := Aside0.mk (below_call HB4.out hb4)
  have HR5 := Aside0.mk (Kd.R_lower hR4 HB4.out.size)
  have hz4 := HB5.out.size
  have B5 : w4.heap[w.heap.size]? = _ := (boxc_below (boxc_alloc (boxc_alloc B3 (.cells #[.int .u64 a1_1, .int .u32 a1_2, .int .u32 a1_3, .string a1_4] 26)) (.cells #[.int .u64 a1_1, .int .u32 a1_2, .int .u32 a1_3, .string a1_4] 26)) hb4)
  have b0 := (boxc_cell B5 0).trans rfl
  have R5 := boxc_below (boxc_alloc (boxc_new w3 #[.int .u64 a1_1, .int .u32 a1_2, .int .u32 a1_3, .string a1_4] 26) (.cells #[.int .u64 a1_1, .int .u32 a1_2, .int .u32 a1_3, .string a1_4] 26)) hb4
  have r0 := (boxc_cell R5 0).trans rfl
  have r1 := (boxc_cell R5 1).trans rfl
  have r2 := (boxc_cell R5 2).trans rfl
  have r3 := (boxc_cell R5 3).trans rfl
  clear hR4 hb4
  go_wp2_with (first | ((with_reducible refine gate_builtin (b := .append) (xs := #[.tmp 74, .tmp 76]) rfl ?_); at_builtin; refine Kd.R_append k26 (w0 := w) w.heap.size rfl (.tmp 74) (.tmp 76) 22 26 (.agg #[(.int .u64 0), (.int .u32 0), (.int .u32 0), (.string ⟨#[]⟩)]) 32 rfl Try.underlying22 info26 rfl (by decide) (by omega) v4 (l0.take i) (⟨a1_1, a1_2, a1_3, a1_4⟩ : S26) [.int .u64 a1_1, .int .u32 a1_2, .int .u32 a1_3, .string a1_4] (fun _ => True) (fun _ => False) rfl rfl (k26_mkM _ _ _ (⟨a1_1, a1_2, a1_3, a1_4⟩ : S26)) (fun _ hk => hk.elim) (fun _ _ => trivial) HR5.out HB5.out HB5.out.size (by rw [List.length_take]; have := HL.out; omega) ?_; intro v5 w5 ho5 hb5 hg5 hat5; have HO5 := Aside0.mk ho5; have HB6 := Aside0.mk hb5; clear ho5 hb5 hg5 hat5) | ((with_reducible refine gate_builtin (b := .append) (xs := #[.tmp 78, .tmp 81]) rfl ?_); at_builtin; refine Kd.R_append_rows k26 (Rr := k26.K w) (w0 := w) w.heap.size rfl (.tmp 78) (.tmp 81) 22 26 (.agg #[(.int .u64 0), (.int .u32 0), (.int .u32 0), (.string ⟨#[]⟩)]) 32 rfl Try.underlying22 info26 rfl (by decide) (by omega) v5 (l0.take i ++ [(⟨a1_1, a1_2, a1_3, a1_4⟩ : S26)]) (l0.drop (i + 1)) AD (l0.length - (i + 1)) (c0 - (i + 1)) (fun _ => True) (fun _ => False) rfl rfl HO5.out (ReadsRow.imp_ HD.out HB6.out (fun _ _ h => h)) (fun x cs h => k26_keep h) (fun _ hk => hk.elim) (fun _ _ => trivial) HB6.out HB6.out.size (by rw [List.length_append, List.length_take, List.length_singleton]; have := HL.out; omega) ?_; intro v6 w6 ho6 hb6 hg6 hat6))
  go_ret2
  exact ⟨_, rfl, by rw [PL.out]; simpa using ho6, hb6⟩
set_option maxRecDepth 100000 in
set_option maxHeartbeats 8000000 in
theorem apply_move (k : Nat) (A0 : Option Addr) (c0 : Nat) (l0 : List S26) (a1_1 a1_2 a1_3 : Int) (a1_4 : ByteArray)  (w : World) (hr0 : Kd.C k26 w A0 l0.length l0) (hc0 : l0.length ≤ c0) (A1 : Aside0 (quad_Right.f k l0 = some true)) (A2 : Aside0 (plain_check.f 2 a1_1 a1_2 a1_3 a1_4 = some 0)) (A3 : Aside0 (plain_place.f l0 a1_1 = some (((pl l0 a1_1 : Nat) : Int), true))) (hl : l0.length ≤ 1000) (hs : rowEq (rd_T26 l0 ((pl l0 a1_1 : Nat) : Int)) a1_1 a1_2 a1_3 a1_4 = false) :
    Calls Try.prog 12 #[.slice A0 l0.length c0, .agg #[.int .i64 2, .int .u64 a1_1, .int .u32 a1_2, .int .u32 a1_3, .string a1_4]] w fun e w' => ∃ v0_ : Value, e = .returned (.tuple #[v0_, .int .i64 0]) ∧ Kd.R k26 26 w' w.heap.size (fun _ => True) v0_ (l0.take (pl l0 a1_1) ++ [(⟨a1_1, a1_2, a1_3, (rd_T26 l0 ((pl l0 a1_1 : Nat) : Int)).f3⟩ : S26)] ++ l0.drop (pl l0 a1_1 + 1)) ∧ Below w.heap.size w w' := by
  have hu28 := Try.underlying28
  have hu26 := Try.underlying26
  have HR0 := Aside0.mk hr0
  clear hr0
  obtain ⟨_, hp1, hp2⟩ := plain_place.at A3.out
  replace hp2 := hp2 rfl
  have HL := Aside0.mk hl
  clear hl
  have HSm := Aside0.mk hs
  clear hs
  go_enter Try.func12, Try.ntmps12
  go_wp2_with fail
  refine (quad_Right.calls k A0 c0 l0 true _ (Kd.C_alloc HR0.out _) hc0 A1.out).mono ?_
  rintro e1 w1 ⟨rfl, hb1⟩
  have HB1 := Aside0.mk (below_call (below_alloc' (Below.refl _ w) _) hb1)
  have B1 := boxc_below (boxc_new w #[.int .i64 2, .int .u64 a1_1, .int .u32 a1_2, .int .u32 a1_3, .string a1_4] 28) hb1
  have c1_0 := (boxc_cell B1 0).trans rfl
  have c1_1 := (boxc_cell B1 1).trans rfl
  have c1_2 := (boxc_cell B1 2).trans rfl
  have c1_3 := (boxc_cell B1 3).trans rfl
  have c1_4 := (boxc_cell B1 4).trans rfl
  clear hb1
  go_wp2_with fail
  refine (plain_check.calls 2 a1_1 a1_2 a1_3 a1_4 0 _ A2.out).mono ?_
  rintro e2 w2 ⟨rfl, hb2⟩
  have HB2 := Aside0.mk (below_call HB1.out hb2)
  have B2 := boxc_below B1 hb2
  have c2_0 := (boxc_cell B2 0).trans rfl
  have c2_1 := (boxc_cell B2 1).trans rfl
  have c2_2 := (boxc_cell B2 2).trans rfl
  have c2_3 := (boxc_cell B2 3).trans rfl
  have c2_4 := (boxc_cell B2 4).trans rfl
  clear c1_0 c1_1 c1_2 c1_3 c1_4 hb2 B1
  go_wp2_with fail
  refine (plain_place.calls A0 c0 l0 a1_1 (pl l0 a1_1 : Nat) true _ (Kd.C_below HR0.out (HB2.out.mono (Nat.le_refl _))) hc0 A3.out).mono ?_
  rintro e3 w3 ⟨rfl, hb3⟩
  have HB3 := Aside0.mk (below_call HB2.out hb3)
  have B3 := boxc_below B2 hb3
  have c3_0 := (boxc_cell B3 0).trans rfl
  have c3_1 := (boxc_cell B3 1).trans rfl
  have c3_2 := (boxc_cell B3 2).trans rfl
  have c3_3 := (boxc_cell B3 3).trans rfl
  have c3_4 := (boxc_cell B3 4).trans rfl
  clear c2_0 c2_1 c2_2 c2_3 c2_4 hb3
  have HP := Aside0.mk hp1
  generalize hpl : pl l0 a1_1 = i at *
  have PL := Aside0.mk hpl
  clear hpl
  have hcut := cut_hm A0 l0.length c0 (i : Int) (by omega) (by omega) hc0
  obtain ⟨ad, e, x0, x1, x2, x3⟩ := at_T26 HR0.out (i : Int) (by omega) (by omega)
  cases e
  replace x0 := ((show Below w.heap.size w (w3.alloc (.cells #[.int .u64 a1_1, .int .u32 a1_2, .int .u32 a1_3, .string a1_4] 26)) from below_alloc' HB3.out _).cell (World.block_lt_of_cell? w _ x0)).trans x0
  replace x1 := ((show Below w.heap.size w (w3.alloc (.cells #[.int .u64 a1_1, .int .u32 a1_2, .int .u32 a1_3, .string a1_4] 26)) from below_alloc' HB3.out _).cell (World.block_lt_of_cell? w _ x1)).trans x1
  replace x2 := ((show Below w.heap.size w (w3.alloc (.cells #[.int .u64 a1_1, .int .u32 a1_2, .int .u32 a1_3, .string a1_4] 26)) from below_alloc' HB3.out _).cell (World.block_lt_of_cell? w _ x2)).trans x2
  replace x3 := ((show Below w.heap.size w (w3.alloc (.cells #[.int .u64 a1_1, .int .u32 a1_2, .int .u32 a1_3, .string a1_4] 26)) from below_alloc' HB3.out _).cell (World.block_lt_of_cell? w _ x3)).trans x3
  generalize hy : rd_T26 l0 (i : Int) = y at *
  have Y := Aside0.mk hy
  clear hy
  simp only [Int.toNat_natCast] at x0 x1 x2 x3
  simp only [Int.toNat_natCast] at hcut
  obtain ⟨AD, hcut2, hD⟩ := tail_cut w (some ad) c0 l0 (i + 1) ((i : Int) + 1) (by omega) (by omega) hc0 HR0.out
  have hI : (i : Int) ≤ 1000 := by have := HL.out; omega
  have D3 := boxc_alloc (boxc_alloc B3 (.cells #[.int .u64 a1_1, .int .u32 a1_2, .int .u32 a1_3, .string a1_4] 26)) (.cells #[.int .u64 y.f0, .int .u32 y.f1, .int .u32 y.f2, .string y.f3] 26)
  have d3_0 := (boxc_cell D3 0).trans rfl
  have d3_1 := (boxc_cell D3 1).trans rfl
  have d3_2 := (boxc_cell D3 2).trans rfl
  have d3_3 := (boxc_cell D3 3).trans rfl
  have d3_4 := (boxc_cell D3 4).trans rfl
  have DR := boxc_alloc (boxc_new w3 #[.int .u64 a1_1, .int .u32 a1_2, .int .u32 a1_3, .string a1_4] 26) (.cells #[.int .u64 y.f0, .int .u32 y.f1, .int .u32 y.f2, .string y.f3] 26)
  have dr_0 := (boxc_cell DR 0).trans rfl
  have dr_1 := (boxc_cell DR 1).trans rfl
  have dr_2 := (boxc_cell DR 2).trans rfl
  have dr_3 := (boxc_cell DR 3).trans rfl
  have hfr := boxc_frozen DR 3
  have DY := boxc_new (w3.alloc (.cells #[.int .u64 a1_1, .int .u32 a1_2, .int .u32 a1_3, .string a1_4] 26)) #[.int .u64 y.f0, .int .u32 y.f1, .int .u32 y.f2, .string y.f3] 26
  have dyz : (w3.alloc (.cells #[.int .u64 a1_1, .int .u32 a1_2, .int .u32 a1_3, .string a1_4] 26)).heap.size = w3.heap.size + 1 := by simp
  rw [dyz] at DY
  have dy_0 := (boxc_cell DY 0).trans rfl
  have dy_1 := (boxc_cell DY 1).trans rfl
  have dy_2 := (boxc_cell DY 2).trans rfl
  have dy_3 := (boxc_cell DY 3).trans rfl
  have HD := Aside0.mk hD
  clear hD
  rcases rowEq_not HSm.out with hq | hq | hq | hq
  · go_wp2_with fail
    have HB4 : Aside0 (Below w.heap.size w ((w3.alloc (.cells #[.int .u64 a1_1, .int .u32 a1_2, .int .u32 a1_3, .string y.f3] 26)).alloc (.cells #[.int .u64 y.f0, .int .u32 y.f1, .int .u32 y.f2, .string y.f3] 26))) := ⟨(below_alloc' (below_alloc' HB3.out _) _)⟩
    refine (clone_calls (some ad) i (l0.take i) i (by rw [List.length_take]; omega) ((w3.alloc (.cells #[.int .u64 a1_1, .int .u32 a1_2, .int .u32 a1_3, .string y.f3] 26)).alloc (.cells #[.int .u64 y.f0, .int .u32 y.f1, .int .u32 y.f2, .string y.f3] 26)) (Kd.C_take (Kd.C_below HR0.out HB4.out) hp1) (by rw [List.length_take]; have := HL.out; omega)).mono ?_
    rintro e4 w4 ⟨v4, rfl, hR4, hb4⟩
    have HB5 := Aside0.mk (below_call HB4.out hb4)
    have HR5 := Aside0.mk (Kd.R_lower hR4 HB4.out.size)
    have hz4 := HB5.out.size
    have B5 : w4.heap[w.heap.size]? = _ := (boxc_below (boxc_alloc (boxc_alloc B3 (.cells #[.int .u64 a1_1, .int .u32 a1_2, .int .u32 a1_3, .string y.f3] 26)) (.cells #[.int .u64 y.f0, .int .u32 y.f1, .int .u32 y.f2, .string y.f3] 26)) hb4)
    have b0 := (boxc_cell B5 0).trans rfl
    have R5 := boxc_below (boxc_alloc (boxc_new w3 #[.int .u64 a1_1, .int .u32 a1_2, .int .u32 a1_3, .string y.f3] 26) (.cells #[.int .u64 y.f0, .int .u32 y.f1, .int .u32 y.f2, .string y.f3] 26)) hb4
    have r0 := (boxc_cell R5 0).trans rfl
    have r1 := (boxc_cell R5 1).trans rfl
    have r2 := (boxc_cell R5 2).trans rfl
    have r3 := (boxc_cell R5 3).trans rfl
    clear hR4 hb4
    go_wp2_with (first | ((with_reducible refine gate_builtin (b := .append) (xs := #[.tmp 74, .tmp 76]) rfl ?_); at_builtin; refine Kd.R_append k26 (w0 := w) w.heap.size rfl (.tmp 74) (.tmp 76) 22 26 (.agg #[(.int .u64 0), (.int .u32 0), (.int .u32 0), (.string ⟨#[]⟩)]) 32 rfl Try.underlying22 info26 rfl (by decide) (by omega) v4 (l0.take i) (⟨a1_1, a1_2, a1_3, y.f3⟩ : S26) [.int .u64 a1_1, .int .u32 a1_2, .int .u32 a1_3, .string y.f3] (fun _ => True) (fun _ => False) rfl rfl (k26_mkM _ _ _ (⟨a1_1, a1_2, a1_3, y.f3⟩ : S26)) (fun _ hk => hk.elim) (fun _ _ => trivial) HR5.out HB5.out HB5.out.size (by rw [List.length_take]; have := HL.out; omega) ?_; intro v5 w5 ho5 hb5 hg5 hat5; have HO5 := Aside0.mk ho5; have HB6 := Aside0.mk hb5; clear ho5 hb5 hg5 hat5) | ((with_reducible refine gate_builtin (b := .append) (xs := #[.tmp 78, .tmp 81]) rfl ?_); at_builtin; refine Kd.R_append_rows k26 (Rr := k26.K w) (w0 := w) w.heap.size rfl (.tmp 78) (.tmp 81) 22 26 (.agg #[(.int .u64 0), (.int .u32 0), (.int .u32 0), (.string ⟨#[]⟩)]) 32 rfl Try.underlying22 info26 rfl (by decide) (by omega) v5 (l0.take i ++ [(⟨a1_1, a1_2, a1_3, y.f3⟩ : S26)]) (l0.drop (i + 1)) AD (l0.length - (i + 1)) (c0 - (i + 1)) (fun _ => True) (fun _ => False) rfl rfl HO5.out (ReadsRow.imp_ HD.out HB6.out (fun _ _ h => h)) (fun x cs h => k26_keep h) (fun _ hk => hk.elim) (fun _ _ => trivial) HB6.out HB6.out.size (by rw [List.length_append, List.length_take, List.length_singleton]; have := HL.out; omega) ?_; intro v6 w6 ho6 hb6 hg6 hat6))
    go_ret2
    exact ⟨_, rfl, by rw [PL.out, Y.out]; simpa using ho6, hb6⟩
  · go_wp2_with fail
    have HB4 : Aside0 (Below w.heap.size w ((w3.alloc (.cells #[.int .u64 a1_1, .int .u32 a1_2, .int .u32 a1_3, .string y.f3] 26)).alloc (.cells #[.int .u64 y.f0, .int .u32 y.f1, .int .u32 y.f2, .string y.f3] 26))) := ⟨(below_alloc' (below_alloc' HB3.out _) _)⟩
    refine (clone_calls (some ad) i (l0.take i) i (by rw [List.length_take]; omega) ((w3.alloc (.cells #[.int .u64 a1_1, .int .u32 a1_2, .int .u32 a1_3, .string y.f3] 26)).alloc (.cells #[.int .u64 y.f0, .int .u32 y.f1, .int .u32 y.f2, .string y.f3] 26)) (Kd.C_take (Kd.C_below HR0.out HB4.out) hp1) (by rw [List.length_take]; have := HL.out; omega)).mono ?_
    rintro e4 w4 ⟨v4, rfl, hR4, hb4⟩
    have HB5 := Aside0.mk (below_call HB4.out hb4)
    have HR5 := Aside0.mk (Kd.R_lower hR4 HB4.out.size)
    have hz4 := HB5.out.size
    have B5 : w4.heap[w.heap.size]? = _ := (boxc_below (boxc_alloc (boxc_alloc B3 (.cells #[.int .u64 a1_1, .int .u32 a1_2, .int .u32 a1_3, .string y.f3] 26)) (.cells #[.int .u64 y.f0, .int .u32 y.f1, .int .u32 y.f2, .string y.f3] 26)) hb4)
    have b0 := (boxc_cell B5 0).trans rfl
    have R5 := boxc_below (boxc_alloc (boxc_new w3 #[.int .u64 a1_1, .int .u32 a1_2, .int .u32 a1_3, .string y.f3] 26) (.cells #[.int .u64 y.f0, .int .u32 y.f1, .int .u32 y.f2, .string y.f3] 26)) hb4
    have r0 := (boxc_cell R5 0).trans rfl
    have r1 := (boxc_cell R5 1).trans rfl
    have r2 := (boxc_cell R5 2).trans rfl
    have r3 := (boxc_cell R5 3).trans rfl
    clear hR4 hb4
    go_wp2_with (first | ((with_reducible refine gate_builtin (b := .append) (xs := #[.tmp 74, .tmp 76]) rfl ?_); at_builtin; refine Kd.R_append k26 (w0 := w) w.heap.size rfl (.tmp 74) (.tmp 76) 22 26 (.agg #[(.int .u64 0), (.int .u32 0), (.int .u32 0), (.string ⟨#[]⟩)]) 32 rfl Try.underlying22 info26 rfl (by decide) (by omega) v4 (l0.take i) (⟨a1_1, a1_2, a1_3, y.f3⟩ : S26) [.int .u64 a1_1, .int .u32 a1_2, .int .u32 a1_3, .string y.f3] (fun _ => True) (fun _ => False) rfl rfl (k26_mkM _ _ _ (⟨a1_1, a1_2, a1_3, y.f3⟩ : S26)) (fun _ hk => hk.elim) (fun _ _ => trivial) HR5.out HB5.out HB5.out.size (by rw [List.length_take]; have := HL.out; omega) ?_; intro v5 w5 ho5 hb5 hg5 hat5; have HO5 := Aside0.mk ho5; have HB6 := Aside0.mk hb5; clear ho5 hb5 hg5 hat5) | ((with_reducible refine gate_builtin (b := .append) (xs := #[.tmp 78, .tmp 81]) rfl ?_); at_builtin; refine Kd.R_append_rows k26 (Rr := k26.K w) (w0 := w) w.heap.size rfl (.tmp 78) (.tmp 81) 22 26 (.agg #[(.int .u64 0), (.int .u32 0), (.int .u32 0), (.string ⟨#[]⟩)]) 32 rfl Try.underlying22 info26 rfl (by decide) (by omega) v5 (l0.take i ++ [(⟨a1_1, a1_2, a1_3, y.f3⟩ : S26)]) (l0.drop (i + 1)) AD (l0.length - (i + 1)) (c0 - (i + 1)) (fun _ => True) (fun _ => False) rfl rfl HO5.out (ReadsRow.imp_ HD.out HB6.out (fun _ _ h => h)) (fun x cs h => k26_keep h) (fun _ hk => hk.elim) (fun _ _ => trivial) HB6.out HB6.out.size (by rw [List.length_append, List.length_take, List.length_singleton]; have := HL.out; omega) ?_; intro v6 w6 ho6 hb6 hg6 hat6))
    go_ret2
    exact ⟨_, rfl, by rw [PL.out, Y.out]; simpa using ho6, hb6⟩
  · go_wp2_with fail
    have HB4 : Aside0 (Below w.heap.size w ((w3.alloc (.cells #[.int .u64 a1_1, .int .u32 a1_2, .int .u32 a1_3, .string y.f3] 26)).alloc (.cells #[.int .u64 y.f0, .int .u32 y.f1, .int .u32 y.f2, .string y.f3] 26))) := ⟨(below_alloc' (below_alloc' HB3.out _) _)⟩
    refine (clone_calls (some ad) i (l0.take i) i (by rw [List.length_take]; omega) ((w3.alloc (.cells #[.int .u64 a1_1, .int .u32 a1_2, .int .u32 a1_3, .string y.f3] 26)).alloc (.cells #[.int .u64 y.f0, .int .u32 y.f1, .int .u32 y.f2, .string y.f3] 26)) (Kd.C_take (Kd.C_below HR0.out HB4.out) hp1) (by rw [List.length_take]; have := HL.out; omega)).mono ?_
    rintro e4 w4 ⟨v4, rfl, hR4, hb4⟩
    have HB5 := Aside0.mk (below_call HB4.out hb4)
    have HR5 := Aside0.mk (Kd.R_lower hR4 HB4.out.size)
    have hz4 := HB5.out.size
    have B5 : w4.heap[w.heap.size]? = _ := (boxc_below (boxc_alloc (boxc_alloc B3 (.cells #[.int .u64 a1_1, .int .u32 a1_2, .int .u32 a1_3, .string y.f3] 26)) (.cells #[.int .u64 y.f0, .int .u32 y.f1, .int .u32 y.f2, .string y.f3] 26)) hb4)
    have b0 := (boxc_cell B5 0).trans rfl
    have R5 := boxc_below (boxc_alloc (boxc_new w3 #[.int .u64 a1_1, .int .u32 a1_2, .int .u32 a1_3, .string y.f3] 26) (.cells #[.int .u64 y.f0, .int .u32 y.f1, .int .u32 y.f2, .string y.f3] 26)) hb4
    have r0 := (boxc_cell R5 0).trans rfl
    have r1 := (boxc_cell R5 1).trans rfl
    have r2 := (boxc_cell R5 2).trans rfl
    have r3 := (boxc_cell R5 3).trans rfl
    clear hR4 hb4
    go_wp2_with (first | ((with_reducible refine gate_builtin (b := .append) (xs := #[.tmp 74, .tmp 76]) rfl ?_); at_builtin; refine Kd.R_append k26 (w0 := w) w.heap.size rfl (.tmp 74) (.tmp 76) 22 26 (.agg #[(.int .u64 0), (.int .u32 0), (.int .u32 0), (.string ⟨#[]⟩)]) 32 rfl Try.underlying22 info26 rfl (by decide) (by omega) v4 (l0.take i) (⟨a1_1, a1_2, a1_3, y.f3⟩ : S26) [.int .u64 a1_1, .int .u32 a1_2, .int .u32 a1_3, .string y.f3] (fun _ => True) (fun _ => False) rfl rfl (k26_mkM _ _ _ (⟨a1_1, a1_2, a1_3, y.f3⟩ : S26)) (fun _ hk => hk.elim) (fun _ _ => trivial) HR5.out HB5.out HB5.out.size (by rw [List.length_take]; have := HL.out; omega) ?_; intro v5 w5 ho5 hb5 hg5 hat5; have HO5 := Aside0.mk ho5; have HB6 := Aside0.mk hb5; clear ho5 hb5 hg5 hat5) | ((with_reducible refine gate_builtin (b := .append) (xs := #[.tmp 78, .tmp 81]) rfl ?_); at_builtin; refine Kd.R_append_rows k26 (Rr := k26.K w) (w0 := w) w.heap.size rfl (.tmp 78) (.tmp 81) 22 26 (.agg #[(.int .u64 0), (.int .u32 0), (.int .u32 0), (.string ⟨#[]⟩)]) 32 rfl Try.underlying22 info26 rfl (by decide) (by omega) v5 (l0.take i ++ [(⟨a1_1, a1_2, a1_3, y.f3⟩ : S26)]) (l0.drop (i + 1)) AD (l0.length - (i + 1)) (c0 - (i + 1)) (fun _ => True) (fun _ => False) rfl rfl HO5.out (ReadsRow.imp_ HD.out HB6.out (fun _ _ h => h)) (fun x cs h => k26_keep h) (fun _ hk => hk.elim) (fun _ _ => trivial) HB6.out HB6.out.size (by rw [List.length_append, List.length_take, List.length_singleton]; have := HL.out; omega) ?_; intro v6 w6 ho6 hb6 hg6 hat6))
    go_ret2
    exact ⟨_, rfl, by rw [PL.out, Y.out]; simpa using ho6, hb6⟩
  · go_wp2_with fail
    have HB4 : Aside0 (Below w.heap.size w ((w3.alloc (.cells #[.int .u64 a1_1, .int .u32 a1_2, .int .u32 a1_3, .string y.f3] 26)).alloc (.cells #[.int .u64 y.f0, .int .u32 y.f1, .int .u32 y.f2, .string y.f3] 26))) := ⟨(below_alloc' (below_alloc' HB3.out _) _)⟩
    refine (clone_calls (some ad) i (l0.take i) i (by rw [List.length_take]; omega) ((w3.alloc (.cells #[.int .u64 a1_1, .int .u32 a1_2, .int .u32 a1_3, .string y.f3] 26)).alloc (.cells #[.int .u64 y.f0, .int .u32 y.f1, .int .u32 y.f2, .string y.f3] 26)) (Kd.C_take (Kd.C_below HR0.out HB4.out) hp1) (by rw [List.length_take]; have := HL.out; omega)).mono ?_
    rintro e4 w4 ⟨v4, rfl, hR4, hb4⟩
    have HB5 := Aside0.mk (below_call HB4.out hb4)
    have HR5 := Aside0.mk (Kd.R_lower hR4 HB4.out.size)
    have hz4 := HB5.out.size
    have B5 : w4.heap[w.heap.size]? = _ := (boxc_below (boxc_alloc (boxc_alloc B3 (.cells #[.int .u64 a1_1, .int .u32 a1_2, .int .u32 a1_3, .string y.f3] 26)) (.cells #[.int .u64 y.f0, .int .u32 y.f1, .int .u32 y.f2, .string y.f3] 26)) hb4)
    have b0 := (boxc_cell B5 0).trans rfl
    have R5 := boxc_below (boxc_alloc (boxc_new w3 #[.int .u64 a1_1, .int .u32 a1_2, .int .u32 a1_3, .string y.f3] 26) (.cells #[.int .u64 y.f0, .int .u32 y.f1, .int .u32 y.f2, .string y.f3] 26)) hb4
    have r0 := (boxc_cell R5 0).trans rfl
    have r1 := (boxc_cell R5 1).trans rfl
    have r2 := (boxc_cell R5 2).trans rfl
    have r3 := (boxc_cell R5 3).trans rfl
    clear hR4 hb4
    go_wp2_with (first | ((with_reducible refine gate_builtin (b := .append) (xs := #[.tmp 74, .tmp 76]) rfl ?_); at_builtin; refine Kd.R_append k26 (w0 := w) w.heap.size rfl (.tmp 74) (.tmp 76) 22 26 (.agg #[(.int .u64 0), (.int .u32 0), (.int .u32 0), (.string ⟨#[]⟩)]) 32 rfl Try.underlying22 info26 rfl (by decide) (by omega) v4 (l0.take i) (⟨a1_1, a1_2, a1_3, y.f3⟩ : S26) [.int .u64 a1_1, .int .u32 a1_2, .int .u32 a1_3, .string y.f3] (fun _ => True) (fun _ => False) rfl rfl (k26_mkM _ _ _ (⟨a1_1, a1_2, a1_3, y.f3⟩ : S26)) (fun _ hk => hk.elim) (fun _ _ => trivial) HR5.out HB5.out HB5.out.size (by rw [List.length_take]; have := HL.out; omega) ?_; intro v5 w5 ho5 hb5 hg5 hat5; have HO5 := Aside0.mk ho5; have HB6 := Aside0.mk hb5; clear ho5 hb5 hg5 hat5) | ((with_reducible refine gate_builtin (b := .append) (xs := #[.tmp 78, .tmp 81]) rfl ?_); at_builtin; refine Kd.R_append_rows k26 (Rr := k26.K w) (w0 := w) w.heap.size rfl (.tmp 78) (.tmp 81) 22 26 (.agg #[(.int .u64 0), (.int .u32 0), (.int .u32 0), (.string ⟨#[]⟩)]) 32 rfl Try.underlying22 info26 rfl (by decide) (by omega) v5 (l0.take i ++ [(⟨a1_1, a1_2, a1_3, y.f3⟩ : S26)]) (l0.drop (i + 1)) AD (l0.length - (i + 1)) (c0 - (i + 1)) (fun _ => True) (fun _ => False) rfl rfl HO5.out (ReadsRow.imp_ HD.out HB6.out (fun _ _ h => h)) (fun x cs h => k26_keep h) (fun _ hk => hk.elim) (fun _ _ => trivial) HB6.out HB6.out.size (by rw [List.length_append, List.length_take, List.length_singleton]; have := HL.out; omega) ?_; intro v6 w6 ho6 hb6 hg6 hat6))
    go_ret2
    exact ⟨_, rfl, by rw [PL.out, Y.out]; simpa using ho6, hb6⟩
theorem plain_Apply.mono (l0 : List S26) (a b c d : Int) (e : ByteArray) (k : Nat) : LeO (plain_Apply.f k l0 a b c d e) (plain_Apply.f (k + 1) l0 a b c d e) := by
  unfold plain_Apply.f
  repeat' first
      | (with_reducible exact quad_Right.mono _ _)
      | (with_reducible exact LeO.refl _)
      | (with_reducible refine LeO.ite ?_ ?_)
      | (with_reducible refine LeO.bind ?_ (fun _ => ?_))


theorem check_kind {a b c d : Int} {s : ByteArray} (h : plain_check.f a b c d s = some 0) : a = 1 ∨ a = 2 ∨ a = 3 := by
  unfold plain_check.f at h
  by_cases h3 : a = 3
  · exact .inr (.inr h3)
  · by_cases h2 : a = 2
    · exact .inr (.inl h2)
    · by_cases h1 : a = 1
      · exact .inl h1
      · rw [if_neg h3, if_neg h2, if_neg h1] at h; simp at h
theorem rowEq_val {x : S26} {b c d : Int} {s : ByteArray} (h : rowEq x b c d s = true) : x.f3 = s := (rowEq_all h).2.2.2
theorem plain_Apply.calls (k : Nat) (A0 : Option Addr) (c0 : Nat) (l0 : List S26) (a1_0 a1_1 a1_2 a1_3 : Int) (a1_4 : ByteArray) (r1 : List S26) (r2 : Int) (w : World) (hr0 : Kd.C k26 w A0 l0.length l0) (hc0 : l0.length ≤ c0) (h : plain_Apply.f k l0 a1_0 a1_1 a1_2 a1_3 a1_4 = some (r1, r2)) :
    Calls Try.prog 12 #[.slice A0 l0.length c0, .agg #[.int .i64 a1_0, .int .u64 a1_1, .int .u32 a1_2, .int .u32 a1_3, .string a1_4]] w fun e w' => ∃ v0_ : Value, e = .returned (.tuple #[v0_, .int .i64 r2]) ∧ Kd.R k26 26 w' w.heap.size (fun _ => True) v0_ r1 ∧ Below w.heap.size w w' := by
  unfold plain_Apply.f at h
  obtain ⟨t, ht, h⟩ := Option.bind_eq_some_iff.1 h
  cases t with
  | false =>
    simp only [Bool.false_eq_true, if_false, Option.some.injEq, Prod.mk.injEq] at h
    obtain ⟨rfl, rfl⟩ := h
    exact apply_no k A0 c0 l0 a1_0 a1_1 a1_2 a1_3 a1_4 w hr0 hc0 ⟨ht⟩
  | true =>
    rw [if_pos rfl] at h
    obtain ⟨er, he, h⟩ := Option.bind_eq_some_iff.1 h
    by_cases h0 : er = 0
    case neg =>
      rw [if_neg h0] at h
      simp only [Option.some.injEq, Prod.mk.injEq] at h
      obtain ⟨rfl, rfl⟩ := h
      exact apply_bad k A0 c0 l0 a1_0 a1_1 a1_2 a1_3 a1_4 er w hr0 hc0 ⟨ht⟩ ⟨he⟩ h0
    case pos =>
      subst h0
      rw [if_pos rfl] at h
      obtain ⟨⟨i, th⟩, hp, h⟩ := Option.bind_eq_some_iff.1 h
      obtain ⟨rfl, hp1, hp2⟩ := plain_place.at hp
      dsimp only at h
      have hk := check_kind he
      cases th with
      | false =>
        by_cases hk1 : a1_0 = 1
        case neg =>
          rw [if_pos ⟨rfl, hk1⟩] at h
          simp only [Option.some.injEq, Prod.mk.injEq] at h
          obtain ⟨rfl, rfl⟩ := h
          exact apply_none k A0 c0 l0 a1_0 a1_1 a1_2 a1_3 a1_4 w hr0 hc0 ⟨ht⟩ ⟨he⟩ ⟨hp⟩ hk1
        case pos =>
          subst hk1
          rw [if_neg (by simp)] at h
          by_cases hm : l0.length = 1000
          · rw [if_pos ⟨rfl, hm⟩] at h
            simp only [Option.some.injEq, Prod.mk.injEq] at h
            obtain ⟨rfl, rfl⟩ := h
            exact apply_many k A0 c0 l0 a1_1 a1_2 a1_3 a1_4 w hr0 hc0 ⟨ht⟩ ⟨he⟩ ⟨hp⟩ hm
          · rw [if_neg (by simp [hm])] at h
            by_cases hl : l0.length ≤ 1000
            · rw [if_pos hl] at h
              simp only [Option.some.injEq, Prod.mk.injEq, Bool.false_eq_true, false_and, if_false, Nat.add_zero, show (1 : Int) ≠ 3 from by decide] at h
              obtain ⟨rfl, rfl⟩ := h
              exact apply_put_new k A0 c0 l0 a1_1 a1_2 a1_3 a1_4 w hr0 hc0 ⟨ht⟩ ⟨he⟩ ⟨hp⟩ hl hm
            · rw [if_neg hl] at h; simp at h
      | true =>
        rw [if_neg (by simp), if_neg (by simp)] at h
        by_cases hl : l0.length ≤ 1000
        case neg => rw [if_neg hl] at h; simp at h
        case pos =>
          rw [if_pos hl] at h
          rcases hk with rfl | rfl | rfl
          · simp only [Option.some.injEq, Prod.mk.injEq, if_true, true_and, if_false, show (1 : Int) ≠ 3 from by decide, show ¬ (1 : Int) = 2 from by decide] at h
            obtain ⟨rfl, rfl⟩ := h
            exact apply_put_old k A0 c0 l0 a1_1 a1_2 a1_3 a1_4 w hr0 hc0 ⟨ht⟩ ⟨he⟩ ⟨hp⟩ hl
          · simp only [Option.some.injEq, Prod.mk.injEq, if_true, true_and, if_false, show (2 : Int) ≠ 3 from by decide] at h
            obtain ⟨rfl, rfl⟩ := h
            cases hs : rowEq (rd_T26 l0 ((pl l0 a1_1 : Nat) : Int)) a1_1 a1_2 a1_3 a1_4 with
            | true =>
              rw [rowEq_val hs]
              exact apply_move_same k A0 c0 l0 a1_1 a1_2 a1_3 a1_4 w hr0 hc0 ⟨ht⟩ ⟨he⟩ ⟨hp⟩ hl hs
            | false => exact apply_move k A0 c0 l0 a1_1 a1_2 a1_3 a1_4 w hr0 hc0 ⟨ht⟩ ⟨he⟩ ⟨hp⟩ hl hs
          · simp only [Option.some.injEq, Prod.mk.injEq, if_true, List.append_nil] at h
            obtain ⟨rfl, rfl⟩ := h
            exact apply_delete k A0 c0 l0 a1_1 a1_2 a1_3 a1_4 w hr0 hc0 ⟨ht⟩ ⟨he⟩ ⟨hp⟩ hl


end Go.Proofs.Ytpgjbabbfnglfaa.P

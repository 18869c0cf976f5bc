-- Laid by a program of this session: the walk of functions of the translation, for this claim.
import Derived.Test.YtpgjbabbfnglfaaPx0
import Derived.Test.YtpgjbabbfnglfaaPx2
namespace Go.Proofs.Ytpgjbabbfnglfaa.P
open Go.RowKit Go.Proofs.YtpgjbabbfnglfaaOwn Go.Proofs.YtpgjbabbfnglfaaW.PrintWords Go.Proofs.YtpgjbabbfnglfaaW.PrintLast Go.Proofs.YtpgjbabbfnglfaaW.PrintMore
attribute [local go_sem] max2_int min2_int max_two min_two max_three min_three max_four min_four   -- for this text's walks alone
set_option linter.unusedVariables false
set_option linter.unusedSimpArgs false

/-! ### plain_check: function 22 -/
def plain_check.f (a0_0 : Int) (a0_1 : Int) (a0_2 : Int) (a0_3 : Int) (a0_4 : ByteArray) : Option (Int) := if a0_0 = 3 then (some 0) else (if a0_0 = 2 then ((quad_RightRow.f a0_1 a0_2 a0_3 (⟨#[]⟩ : ByteArray)).bind fun t108 => (if t108 = true then (some 0) else (some 80))) else (if a0_0 = 1 then ((quad_RightRow.f a0_1 a0_2 a0_3 a0_4).bind fun t109 => (if t109 = true then (some 0) else (some 80))) else (some 2)))
theorem right_row_tot (a b c : Int) (s : ByteArray) : ∃ t, quad_RightRow.f a b c s = some t := by
  unfold quad_RightRow.f
  split <;> exact ⟨_, rfl⟩
set_option maxRecDepth 100000 in
set_option maxHeartbeats 4000000 in
theorem plain_check.calls (a0_0 : Int) (a0_1 : Int) (a0_2 : Int) (a0_3 : Int) (a0_4 : ByteArray) (r : Int) (w : World) (h : plain_check.f a0_0 a0_1 a0_2 a0_3 a0_4 = some r) :
    Calls Try.prog 22 #[.agg #[.int .i64 a0_0, .int .u64 a0_1, .int .u32 a0_2, .int .u32 a0_3, .string a0_4]] w fun e w' => e = .returned (.int .i64 r) ∧ Below w.heap.size w w' := by
  have hu28 := Try.underlying28
  have hu26 := Try.underlying26
  have HB := Aside0.mk (below_alloc' (below_alloc' (Below.refl _ w) (.cells #[.int .i64 a0_0, .int .u64 a0_1, .int .u32 a0_2, .int .u32 a0_3, .string a0_4] 28)) (.cells #[.int .u64 a0_1, .int .u32 a0_2, .int .u32 a0_3, .string a0_4] 26))
  unfold plain_check.f at h
  by_cases c3 : a0_0 = 3
  · subst c3
    rw [if_pos rfl] at h
    obtain rfl := Option.some.inj h
    clear h
    go_enter Try.func22, Try.ntmps22
    go_wp2
    go_ret
    exact ⟨rfl, HB.out⟩
  · rw [if_neg c3] at h
    by_cases c2 : a0_0 = 2
    · subst c2
      rw [if_pos rfl] at h
      obtain ⟨t, ht⟩ := right_row_tot a0_1 a0_2 a0_3 (⟨#[]⟩ : ByteArray)
      rw [ht, Option.bind_some] at h
      have HT := Aside0.mk ht
      clear ht c3
      go_enter Try.func22, Try.ntmps22
      go_wp2_with fail
      refine (quad_RightRow.calls a0_1 a0_2 a0_3 (⟨#[]⟩ : ByteArray) t _ HT.out).mono ?_
      rintro e1 w1 ⟨rfl, hb1⟩
      have HB1 := Aside0.mk (below_call (below_alloc' (below_alloc' (Below.refl _ w) _) _) hb1)
      cases t with
      | true =>
        rw [if_pos rfl] at h
        obtain rfl := Option.some.inj h
        go_wp2
        go_ret
        exact ⟨rfl, HB1.out⟩
      | false =>
        rw [if_neg Bool.false_ne_true] at h
        obtain rfl := Option.some.inj h
        go_wp2
        go_ret
        exact ⟨rfl, HB1.out⟩
    · rw [if_neg c2] at h
      by_cases c1 : a0_0 = 1
      · subst c1
        rw [if_pos rfl] at h
        obtain ⟨t, ht⟩ := right_row_tot a0_1 a0_2 a0_3 a0_4
        rw [ht, Option.bind_some] at h
        have HT := Aside0.mk ht
        clear ht c3 c2
        go_enter Try.func22, Try.ntmps22
        go_wp2_with fail
        refine (quad_RightRow.calls a0_1 a0_2 a0_3 a0_4 t _ HT.out).mono ?_
        rintro e1 w1 ⟨rfl, hb1⟩
        have HB1 := Aside0.mk (below_call HB.out hb1)
        cases t with
        | true =>
          rw [if_pos rfl] at h
          obtain rfl := Option.some.inj h
          go_wp2
          go_ret
          exact ⟨rfl, HB1.out⟩
        | false =>
          rw [if_neg Bool.false_ne_true] at h
          obtain rfl := Option.some.inj h
          go_wp2
          go_ret
          exact ⟨rfl, HB1.out⟩
      · rw [if_neg c1] at h
        obtain rfl := Option.some.inj h
        have b3 : (a0_0 == 3) = false := beq_eq_false_iff_ne.2 c3
        have b2 : (a0_0 == 2) = false := beq_eq_false_iff_ne.2 c2
        have b1 : (a0_0 == 1) = false := beq_eq_false_iff_ne.2 c1
        clear c1 c2 c3 h
        go_enter Try.func22, Try.ntmps22
        go_wp2
        go_ret
        exact ⟨rfl, HB.out⟩

-- NOT PRINTED: function 29 (api_Row_uint64)

/-! ### cmp_isNaN_uint64: function 33 -/
def cmp_isNaN_uint64.f (a0 : Int) : Option (Bool) := some (a0 != a0)
set_option maxHeartbeats 8000000 in
set_option maxRecDepth 100000 in
theorem cmp_isNaN_uint64.calls (a0 : Int) (r : Bool) (w : World) (h : cmp_isNaN_uint64.f a0 = some r) :
    Calls Try.prog 33 #[.int .u64 a0] w fun e w' => e = .returned (.bool r) ∧ Drawn0 w w' := by
  have H : (some (a0 != a0)) = some r := h
  clear h
  obtain rfl := Option.some.inj H
  go_enter Try.func33, Try.ntmps33
  go_wp2
  go_ret
  exact ⟨by first | rfl | (simp; done) | (simp [*]; done), by repeat (first | exact Drawn0.refl _ | apply Drawn0.step)⟩

/-! ### cmp_Compare_uint64: function 31 -/
def cmp_Compare_uint64.f (a0 : Int) (a1 : Int) : Option (Int) := (cmp_isNaN_uint64.f a0).bind fun t106 => ((cmp_isNaN_uint64.f a1).bind fun t107 => (if t106 = true then (if t107 = true then (some 0) else (some (-1))) else (if t107 = true then (some 1) else (if a0 < a1 then (some (-1)) else (if a0 > a1 then (some 1) else (some 0))))))
set_option maxHeartbeats 8000000 in
set_option maxRecDepth 100000 in
theorem cmp_Compare_uint64.calls (a0 : Int) (a1 : Int) (r : Int) (w : World) (h : cmp_Compare_uint64.f a0 a1 = some r) :
    Calls Try.prog 31 #[.int .u64 a0, .int .u64 a1] w fun e w' => e = .returned (.int .i64 r) ∧ Drawn0 w w' := by
  have H : ((cmp_isNaN_uint64.f a0).bind fun t106 => ((cmp_isNaN_uint64.f a1).bind fun t107 => (if t106 = true then (if t107 = true then (some 0) else (some (-1))) else (if t107 = true then (some 1) else (if a0 < a1 then (some (-1)) else (if a0 > a1 then (some 1) else (some 0))))))) = some r := h
  clear h
  replace H := Option.bind_eq_some_iff.mp H
  obtain ⟨t106, A30, H⟩ := H
  replace H : ((cmp_isNaN_uint64.f a1).bind fun t107 => (if t106 = true then (if t107 = true then (some 0) else (some (-1))) else (if t107 = true then (some 1) else (if a0 < a1 then (some (-1)) else (if a0 > a1 then (some 1) else (some 0)))))) = some r := H
  have A3 := Aside0.mk A30
  clear A30
  replace H := Option.bind_eq_some_iff.mp H
  obtain ⟨t107, A40, H⟩ := H
  replace H : (if t106 = true then (if t107 = true then (some 0) else (some (-1))) else (if t107 = true then (some 1) else (if a0 < a1 then (some (-1)) else (if a0 > a1 then (some 1) else (some 0))))) = some r := H
  have A4 := Aside0.mk A40
  clear A40
  by_cases c5 : t106 = true
  · subst c5
    have H1 : (if t107 = true then (some 0) else (some (-1))) = some r := by rw [if_pos rfl] at H; exact H
    clear H
    have H := H1
    clear H1
    by_cases c6 : t107 = true
    · subst c6
      have H1 : (some 0) = some r := by rw [if_pos rfl] at H; exact H
      clear H
      have H := H1
      clear H1
      obtain rfl := Option.some.inj H
      go_enter Try.func31, Try.ntmps31
      go_wp2_with (first | ((with_reducible refine gate_callee (f := 33) rfl ?_); refine goesL_ (some 8) rfl rfl Try.func33 (by kernel_rfl) rfl #[.int .u64 a0] rfl (by (try simp only [List.map_toArray, List.map_cons, List.map_nil]); first | done | rfl | (simp only [List.length_drop, List.length_take]; rfl)) ?_; (with_reducible refine (cmp_isNaN_uint64.calls a0 true _ A3.out).mono ?_); rintro e w' ⟨rfl, ⟨nd, rfl⟩⟩; refine ⟨_, rfl, ?_⟩) | ((with_reducible refine gate_callee (f := 33) rfl ?_); refine goesL_ (some 10) rfl rfl Try.func33 (by kernel_rfl) rfl #[.int .u64 a1] rfl (by (try simp only [List.map_toArray, List.map_cons, List.map_nil]); first | done | rfl | (simp only [List.length_drop, List.length_take]; rfl)) ?_; (with_reducible refine (cmp_isNaN_uint64.calls a1 true _ A4.out).mono ?_); rintro e w' ⟨rfl, ⟨nd, rfl⟩⟩; refine ⟨_, rfl, ?_⟩))
      go_ret
      exact ⟨by first | rfl | (simp; done) | (simp [*]; done), by repeat (first | exact Drawn0.refl _ | apply Drawn0.step)⟩
    · replace c6 := Bool.eq_false_iff.mpr c6
      subst c6
      have H1 : (some (-1)) = some r := by rw [if_neg (show ¬ (false = true) by decide)] at H; exact H
      clear H
      have H := H1
      clear H1
      obtain rfl := Option.some.inj H
      go_enter Try.func31, Try.ntmps31
      go_wp2_with (first | ((with_reducible refine gate_callee (f := 33) rfl ?_); refine goesL_ (some 8) rfl rfl Try.func33 (by kernel_rfl) rfl #[.int .u64 a0] rfl (by (try simp only [List.map_toArray, List.map_cons, List.map_nil]); first | done | rfl | (simp only [List.length_drop, List.length_take]; rfl)) ?_; (with_reducible refine (cmp_isNaN_uint64.calls a0 true _ A3.out).mono ?_); rintro e w' ⟨rfl, ⟨nd, rfl⟩⟩; refine ⟨_, rfl, ?_⟩) | ((with_reducible refine gate_callee (f := 33) rfl ?_); refine goesL_ (some 10) rfl rfl Try.func33 (by kernel_rfl) rfl #[.int .u64 a1] rfl (by (try simp only [List.map_toArray, List.map_cons, List.map_nil]); first | done | rfl | (simp only [List.length_drop, List.length_take]; rfl)) ?_; (with_reducible refine (cmp_isNaN_uint64.calls a1 false _ A4.out).mono ?_); rintro e w' ⟨rfl, ⟨nd, rfl⟩⟩; refine ⟨_, rfl, ?_⟩))
      go_ret
      exact ⟨by first | rfl | (simp; done) | (simp [*]; done), by repeat (first | exact Drawn0.refl _ | apply Drawn0.step)⟩
  · replace c5 := Bool.eq_false_iff.mpr c5
    subst c5
    have H1 : (if t107 = true then (some 1) else (if a0 < a1 then (some (-1)) else (if a0 > a1 then (some 1) else (some 0)))) = some r := by rw [if_neg (show ¬ (false = true) by decide)] at H; exact H
    clear H
    have H := H1
    clear H1
    by_cases c7 : t107 = true
    · subst c7
      have H1 : (some 1) = some r := by rw [if_pos rfl] at H; exact H
      clear H
      have H := H1
      clear H1
      obtain rfl := Option.some.inj H
      go_enter Try.func31, Try.ntmps31
      go_wp2_with (first | ((with_reducible refine gate_callee (f := 33) rfl ?_); refine goesL_ (some 8) rfl rfl Try.func33 (by kernel_rfl) rfl #[.int .u64 a0] rfl (by (try simp only [List.map_toArray, List.map_cons, List.map_nil]); first | done | rfl | (simp only [List.length_drop, List.length_take]; rfl)) ?_; (with_reducible refine (cmp_isNaN_uint64.calls a0 false _ A3.out).mono ?_); rintro e w' ⟨rfl, ⟨nd, rfl⟩⟩; refine ⟨_, rfl, ?_⟩) | ((with_reducible refine gate_callee (f := 33) rfl ?_); refine goesL_ (some 10) rfl rfl Try.func33 (by kernel_rfl) rfl #[.int .u64 a1] rfl (by (try simp only [List.map_toArray, List.map_cons, List.map_nil]); first | done | rfl | (simp only [List.length_drop, List.length_take]; rfl)) ?_; (with_reducible refine (cmp_isNaN_uint64.calls a1 true _ A4.out).mono ?_); rintro e w' ⟨rfl, ⟨nd, rfl⟩⟩; refine ⟨_, rfl, ?_⟩))
      go_ret
      exact ⟨by first | rfl | (simp; done) | (simp [*]; done), by repeat (first | exact Drawn0.refl _ | apply Drawn0.step)⟩
    · replace c7 := Bool.eq_false_iff.mpr c7
      subst c7
      have H1 : (if a0 < a1 then (some (-1)) else (if a0 > a1 then (some 1) else (some 0))) = some r := by rw [if_neg (show ¬ (false = true) by decide)] at H; exact H
      clear H
      have H := H1
      clear H1
      by_cases c8 : a0 < a1
      · rw [if_pos c8] at H
        have c8b0 : decide (a0 < a1) = true := decide_eq_true c8
        clear c8
        obtain rfl := Option.some.inj H
        go_enter Try.func31, Try.ntmps31
        go_wp2_with (first | ((with_reducible refine gate_callee (f := 33) rfl ?_); refine goesL_ (some 8) rfl rfl Try.func33 (by kernel_rfl) rfl #[.int .u64 a0] rfl (by (try simp only [List.map_toArray, List.map_cons, List.map_nil]); first | done | rfl | (simp only [List.length_drop, List.length_take]; rfl)) ?_; (with_reducible refine (cmp_isNaN_uint64.calls a0 false _ A3.out).mono ?_); rintro e w' ⟨rfl, ⟨nd, rfl⟩⟩; refine ⟨_, rfl, ?_⟩) | ((with_reducible refine gate_callee (f := 33) rfl ?_); refine goesL_ (some 10) rfl rfl Try.func33 (by kernel_rfl) rfl #[.int .u64 a1] rfl (by (try simp only [List.map_toArray, List.map_cons, List.map_nil]); first | done | rfl | (simp only [List.length_drop, List.length_take]; rfl)) ?_; (with_reducible refine (cmp_isNaN_uint64.calls a1 false _ A4.out).mono ?_); rintro e w' ⟨rfl, ⟨nd, rfl⟩⟩; refine ⟨_, rfl, ?_⟩))
        go_ret
        exact ⟨by first | rfl | (simp; done) | (simp [*]; done), by repeat (first | exact Drawn0.refl _ | apply Drawn0.step)⟩
      · rw [if_neg c8] at H
        have c8b0 : decide (a0 < a1) = false := decide_eq_false c8
        clear c8
        by_cases c9 : a0 > a1
        · rw [if_pos c9] at H
          have c9b0 : decide (a1 < a0) = true := decide_eq_true c9
          clear c9
          obtain rfl := Option.some.inj H
          go_enter Try.func31, Try.ntmps31
          go_wp2_with (first | ((with_reducible refine gate_callee (f := 33) rfl ?_); refine goesL_ (some 8) rfl rfl Try.func33 (by kernel_rfl) rfl #[.int .u64 a0] rfl (by (try simp only [List.map_toArray, List.map_cons, List.map_nil]); first | done | rfl | (simp only [List.length_drop, List.length_take]; rfl)) ?_; (with_reducible refine (cmp_isNaN_uint64.calls a0 false _ A3.out).mono ?_); rintro e w' ⟨rfl, ⟨nd, rfl⟩⟩; refine ⟨_, rfl, ?_⟩) | ((with_reducible refine gate_callee (f := 33) rfl ?_); refine goesL_ (some 10) rfl rfl Try.func33 (by kernel_rfl) rfl #[.int .u64 a1] rfl (by (try simp only [List.map_toArray, List.map_cons, List.map_nil]); first | done | rfl | (simp only [List.length_drop, List.length_take]; rfl)) ?_; (with_reducible refine (cmp_isNaN_uint64.calls a1 false _ A4.out).mono ?_); rintro e w' ⟨rfl, ⟨nd, rfl⟩⟩; refine ⟨_, rfl, ?_⟩))
          go_ret
          exact ⟨by first | rfl | (simp; done) | (simp [*]; done), by repeat (first | exact Drawn0.refl _ | apply Drawn0.step)⟩
        · rw [if_neg c9] at H
          have c9b0 : decide (a1 < a0) = false := decide_eq_false c9
          clear c9
          obtain rfl := Option.some.inj H
          go_enter Try.func31, Try.ntmps31
          go_wp2_with (first | ((with_reducible refine gate_callee (f := 33) rfl ?_); refine goesL_ (some 8) rfl rfl Try.func33 (by kernel_rfl) rfl #[.int .u64 a0] rfl (by (try simp only [List.map_toArray, List.map_cons, List.map_nil]); first | done | rfl | (simp only [List.length_drop, List.length_take]; rfl)) ?_; (with_reducible refine (cmp_isNaN_uint64.calls a0 false _ A3.out).mono ?_); rintro e w' ⟨rfl, ⟨nd, rfl⟩⟩; refine ⟨_, rfl, ?_⟩) | ((with_reducible refine gate_callee (f := 33) rfl ?_); refine goesL_ (some 10) rfl rfl Try.func33 (by kernel_rfl) rfl #[.int .u64 a1] rfl (by (try simp only [List.map_toArray, List.map_cons, List.map_nil]); first | done | rfl | (simp only [List.length_drop, List.length_take]; rfl)) ?_; (with_reducible refine (cmp_isNaN_uint64.calls a1 false _ A4.out).mono ?_); rintro e w' ⟨rfl, ⟨nd, rfl⟩⟩; refine ⟨_, rfl, ?_⟩))
          go_ret
          exact ⟨by first | rfl | (simp; done) | (simp [*]; done), by repeat (first | exact Drawn0.refl _ | apply Drawn0.step)⟩

-- NOT PRINTED: function 30 (plain_place_1)

/-! ### plain_place: function 23 -/
/-- Rows by rising ids. -/
def ascS (l : List S26) : Prop := l.Pairwise (fun a b => a.f0 < b.f0)
instance (l : List S26) : Decidable (ascS l) := inferInstanceAs (Decidable (l.Pairwise _))
/-- How many ids are less. -/
def pl (l : List S26) (id : Int) : Nat := l.countP (fun x => decide (x.f0 < id))
def plain_place.f (l0 : List S26) (a1 : Int) : Option (Int × Bool) :=
  if ascS l0 ∧ l0.length < 4611686018427387904 then some ((pl l0 a1 : Int), decide (pl l0 a1 < l0.length) && (rd_T26 l0 (pl l0 a1)).f0 == a1) else none

theorem pl_boundary {α : Type} (p : α → Bool) : ∀ (l : List α) (i : Nat), i ≤ l.length → (∀ t, (h : t < l.length) → t < i → p l[t] = true) → (∀ t, (h : t < l.length) → i ≤ t → p l[t] = false) → l.countP p = i
  | [], i, hi, _, _ => by simp at hi; simp [hi]
  | a :: r, 0, _, _, h2 => by
    rw [List.countP_eq_zero]
    intro x hx
    obtain ⟨t, ht, rfl⟩ := List.getElem_of_mem hx
    simp [h2 t ht (Nat.zero_le _)]
  | a :: r, i + 1, hi, h1, h2 => by
    have ha : p a = true := h1 0 (by simp) (Nat.succ_pos _)
    rw [List.countP_cons_of_pos ha, pl_boundary p r i (by simpa using hi) (fun t ht hi' => h1 (t + 1) (by simpa using ht) (by omega)) (fun t h3 h4 => h2 (t + 1) (by simpa using h3) (by omega))]
theorem rd_nat (l : List S26) (t : Nat) (h : t < l.length) : rd_T26 l t = l[t] := by unfold rd_T26; simp [List.getD, h]
theorem ascS_lt {l : List S26} (h : ascS l) {a b : Nat} (hb : b < l.length) (hab : a < b) : (rd_T26 l a).f0 < (rd_T26 l b).f0 := by
  rw [rd_nat l a (by omega), rd_nat l b hb]
  exact List.pairwise_iff_getElem.1 h a b (by omega) hb hab

/-- What the comparison says. -/
def cmpS (x y : Int) : Int := if x < y then -1 else if x > y then 1 else 0
theorem cmpS_lt {x y : Int} (h : cmpS x y < 0) : x < y := by
  unfold cmpS at h
  by_cases h1 : x < y
  · exact h1
  · rw [if_neg h1] at h; split at h <;> omega
theorem cmpS_ge {x y : Int} (h : ¬ cmpS x y < 0) : y ≤ x := by
  unfold cmpS at h
  by_cases h1 : x < y
  · rw [if_pos h1] at h; omega
  · omega
theorem cmp_f (x y : Int) : cmp_Compare_uint64.f x y = some (cmpS x y) := by
  unfold cmp_Compare_uint64.f cmp_isNaN_uint64.f cmpS
  simp
  split <;> simp_all
  split <;> simp_all

set_option maxRecDepth 100000 in
set_option maxHeartbeats 4000000 in
theorem place1_calls (x : S26) (id : Int) (w : World) :
    Calls Try.prog 30 #[.agg #[.int .u64 x.f0, .int .u32 x.f1, .int .u32 x.f2, .string x.f3], .int .u64 id] w fun e w' => e = .returned (.int .i64 (cmpS x.f0 id)) ∧ Below w.heap.size w w' := by
  go_enter Try.func30, Try.ntmps30
  go_wp2_with (go_at_call 31; refine (cmp_Compare_uint64.calls x.f0 id (cmpS x.f0 id) _ (cmp_f _ _)).mono ?_; rintro e w1 ⟨rfl, hb⟩)
  refine bodyPost_ret (v := .int .i64 (cmpS x.f0 id)) (by simp [results, Try.results30, go_sem]) rfl ⟨rfl, ?_⟩
  exact below_call (below_alloc' (Below.refl _ w) _) hb.below

set_option maxRecDepth 100000 in
set_option maxHeartbeats 4000000 in
theorem search_calls (A0 : Option Addr) (c0 : Nat) (l0 : List S26) (id : Int) (w : World) (hr0 : Kd.C k26 w A0 l0.length l0) (hasc : ascS l0) (hlen : l0.length < 4611686018427387904) :
    Calls Try.prog 29 #[.slice A0 l0.length c0, .int .u64 id, .func (.func 30) #[] #[]] w fun e w' =>
      e = .returned (.tuple #[.int .i64 (pl l0 id), .bool (decide (pl l0 id < l0.length) && (rd_T26 l0 (pl l0 id)).f0 == id)]) ∧ Below w.heap.size w w' := by
  have HR0 := Aside0.mk hr0
  have HS := Aside0.mk hasc
  clear hr0 hasc
  have eg := enters_of (P := Try.prog) Try.func30 (by kernel_rfl) rfl
  generalize hcnt : pl l0 id = cnt
  have CN := Aside0.mk hcnt
  clear hcnt
  generalize hfin : (decide (cnt < l0.length) && (rd_T26 l0 cnt).f0 == id) = fin
  have FIN := Aside0.mk hfin
  clear hfin
  go_enter Try.func29, Try.ntmps29
  go_wp2
  go_loopg [9, 10] l0.length (fun kx s9 s10 wr => ∃ lo hi : Nat, s9 = .int .i64 lo ∧ s10 = .int .i64 hi ∧ lo ≤ hi ∧ hi ≤ l0.length ∧ hi - lo ≤ kx ∧ Aside0 (Below w.heap.size w wr) ∧
    Aside0 ((∀ t, t < lo → (rd_T26 l0 (t : Nat)).f0 < id) ∧ (∀ t, hi ≤ t → t < l0.length → id ≤ (rd_T26 l0 (t : Nat)).f0)))
  case atStart => exact ⟨0, l0.length, rfl, rfl, Nat.zero_le _, Nat.le_refl _, by omega, ⟨Below.refl _ _⟩, ⟨fun t ht => absurd ht (Nat.not_lt_zero _), fun t h1 h2 => by omega⟩⟩
  case round =>
    obtain ⟨lo, hi, rfl, rfl, hlh, hin, hg, HB, I⟩ := hrel
    by_cases hlt : lo < hi
    · obtain ⟨ad, e, x0, x1, x2, x3⟩ := at_T26 HR0.out (((lo + hi) / 2 : Nat) : Int) (by omega) (by omega)
      cases e
      replace x0 := (HB.out.cell (World.block_lt_of_cell? w _ x0)).trans x0
      replace x1 := (HB.out.cell (World.block_lt_of_cell? w _ x1)).trans x1
      replace x2 := (HB.out.cell (World.block_lt_of_cell? w _ x2)).trans x2
      replace x3 := (HB.out.cell (World.block_lt_of_cell? w _ x3)).trans x3
      simp only [Int.toNat_natCast] at x0 x1 x2 x3
      generalize hy : rd_T26 l0 (((lo + hi) / 2 : Nat) : Int) = y at x0 x1 x2 x3
      have Y := Aside0.mk hy
      clear hy
      by_cases hyx : cmpS y.f0 id < 0
      · go_wp2_with fail
        refine (place1_calls y id _).mono ?_
        rintro e w' ⟨rfl, hb⟩
        go_wp2
        go_roundg (hi - ((lo + hi) / 2 + 1))
        case measure => omega
        case rel =>
          refine ⟨(lo + hi) / 2 + 1, hi, by rw [show ((lo : Int) + (hi : Int)) / 2 + 1 = (((lo + hi) / 2 + 1 : Nat) : Int) by omega], rfl, by omega, hin, Nat.le_refl _, ⟨below_call HB.out hb⟩, ⟨fun t ht => ?_, I.out.2⟩⟩
          have hm : (rd_T26 l0 (((lo + hi) / 2 : Nat) : Int)).f0 < id := by rw [Y.out]; exact cmpS_lt hyx
          by_cases ht2 : t < (lo + hi) / 2
          · exact Int.lt_trans (ascS_lt HS.out (by omega) ht2) hm
          · obtain rfl : t = (lo + hi) / 2 := by omega
            exact hm
      · go_wp2_with fail
        refine (place1_calls y id _).mono ?_
        rintro e w' ⟨rfl, hb⟩
        go_wp2
        go_roundg ((lo + hi) / 2 - lo)
        case measure => omega
        case rel =>
          refine ⟨lo, (lo + hi) / 2, rfl, by rw [show ((lo : Int) + (hi : Int)) / 2 = (((lo + hi) / 2 : Nat) : Int) by omega], by omega, by omega, Nat.le_refl _, ⟨below_call HB.out hb⟩, ⟨I.out.1, fun t ht htn => ?_⟩⟩
          have hm : id ≤ (rd_T26 l0 (((lo + hi) / 2 : Nat) : Int)).f0 := by rw [Y.out]; exact cmpS_ge (by omega)
          by_cases ht2 : (lo + hi) / 2 < t
          · exact Int.le_of_lt (Int.lt_of_le_of_lt hm (ascS_lt HS.out htn ht2))
          · obtain rfl : t = (lo + hi) / 2 := by omega
            exact hm
    · obtain rfl : hi = lo := by omega
      have ecnt : cnt = hi := by
        rw [← CN.out]
        refine pl_boundary _ l0 hi hin (fun t h ht => ?_) (fun t h ht => ?_)
        · have := I.out.1 t ht; rw [rd_nat l0 t h] at this; exact decide_eq_true this
        · have := I.out.2 t ht h; rw [rd_nat l0 t h] at this; exact decide_eq_false (by omega)
      subst ecnt
      by_cases hn : cnt < l0.length
      · obtain ⟨ad, e, x0, x1, x2, x3⟩ := at_T26 HR0.out (cnt : Int) (by omega) (by omega)
        cases e
        replace x0 := (HB.out.cell (World.block_lt_of_cell? w _ x0)).trans x0
        replace x1 := (HB.out.cell (World.block_lt_of_cell? w _ x1)).trans x1
        replace x2 := (HB.out.cell (World.block_lt_of_cell? w _ x2)).trans x2
        replace x3 := (HB.out.cell (World.block_lt_of_cell? w _ x3)).trans x3
        simp only [Int.toNat_natCast] at x0 x1 x2 x3
        generalize hy : rd_T26 l0 (cnt : Int) = y at x0 x1 x2 x3
        have Y := Aside0.mk hy
        clear hy
        have hfin : fin = (cmpS y.f0 id == 0) := by
          rw [← FIN.out, Y.out]; unfold cmpS
          by_cases h1 : y.f0 < id
          · simp [hn, h1]; omega
          · by_cases h2 : y.f0 > id
            · simp [hn, h1, h2]; omega
            · have : y.f0 = id := by omega
              simp [hn, this]
        by_cases hyx : cmpS y.f0 id = 0
        · have hf2 : fin = true := by rw [hfin]; simp [hyx]
          subst hf2
          clear hfin
          go_wp2_with fail
          refine (place1_calls y id _).mono ?_
          rintro e w' ⟨rfl, hb⟩
          go_wp2
          go_ret2
          exact ⟨by simp [hyx], below_call HB.out hb⟩
        · have hf2 : fin = false := by rw [hfin]; simp [hyx]
          subst hf2
          clear hfin
          go_wp2_with fail
          refine (place1_calls y id _).mono ?_
          rintro e w' ⟨rfl, hb⟩
          go_wp2
          go_ret2
          exact ⟨by simp [hyx], below_call HB.out hb⟩
      · go_wp2
        go_ret2
        exact ⟨by rw [← FIN.out]; simp [hn], HB.out⟩

set_option maxRecDepth 100000 in
set_option maxHeartbeats 4000000 in
theorem plain_place.calls (A0 : Option Addr) (c0 : Nat) (l0 : List S26) (a1 : Int) (r1 : Int) (r2 : Bool) (w : World) (hr0 : Kd.C k26 w A0 l0.length l0) (hc0 : l0.length ≤ c0) (h : plain_place.f l0 a1 = some (r1, r2)) :
    Calls Try.prog 23 #[.slice A0 l0.length c0, .int .u64 a1] w fun e w' => e = .returned (.tuple #[.int .i64 r1, .bool r2]) ∧ Below w.heap.size w w' := by
  unfold plain_place.f at h
  split at h
  case isFalse => exact absurd h (by simp)
  rename_i hh
  have H1 := Aside0.mk hh
  have HR0 := Aside0.mk hr0
  simp only [Option.some.injEq, Prod.mk.injEq] at h
  obtain ⟨rfl, rfl⟩ := h
  clear hh hr0
  go_enter Try.func23, Try.ntmps23
  go_wp2_with (go_at_call 29; refine (search_calls A0 c0 l0 a1 _ HR0.out H1.out.1 H1.out.2).mono ?_; rintro e w1 ⟨rfl, hb⟩)
  go_ret2
  exact ⟨by simp, hb⟩

-- NOT PRINTED: function 24 (api_Row)

end Go.Proofs.Ytpgjbabbfnglfaa.P

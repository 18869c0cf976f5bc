-- Laid by a program of this session: the walk of functions of the translation, for this claim.
import Derived.Test.YtpgjbabbfnglfaaPx0
import Derived.Test.YtpgjbabbfnglfaaPx1
import Derived.Test.YtpgjbabbfnglfaaPx2
import Derived.Test.YtpgjbabbfnglfaaPx4
namespace Go.Proofs.Ytpgjbabbfnglfaa.P
open Go.RowKit Go.Proofs.YtpgjbabbfnglfaaOwn Go.Proofs.YtpgjbabbfnglfaaW.PrintWords Go.Proofs.YtpgjbabbfnglfaaW.PrintLast Go.Proofs.YtpgjbabbfnglfaaW.PrintMore
attribute [local go_sem] max2_int min2_int max_two min_two max_three min_three max_four min_four   -- for this text's walks alone
set_option linter.unusedVariables false
set_option linter.unusedSimpArgs false

attribute [local go_sem high] eqA26
/-! ### sphragisref09_Same: function 15 -/
def sphragisref09_Same.l0 : Nat → List (S26) → List (S26) → Int → Option (Bool)
  | 0, _, _, _ => none
  | k + 1, x0, x1, x5 => if x5 < (x0.length : Int) then (if 0 ≤ x5 then (if x5 < (x1.length : Int) then (if (!(((rd_T26 x0 x5).f0) == ((rd_T26 x1 x5).f0)) || (!(((rd_T26 x0 x5).f1) == ((rd_T26 x1 x5).f1)) || (!(((rd_T26 x0 x5).f2) == ((rd_T26 x1 x5).f2)) || (!((((rd_T26 x0 x5).f3).toList) == (((rd_T26 x1 x5).f3).toList)))))) = true then (some false) else (sphragisref09_Same.l0 k x0 x1 (wrap64 (x5 + 1)))) else (none)) else (none)) else (some true)
def sphragisref09_Same.f (k : Nat) (l0 : List (S26)) (l1 : List (S26)) : Option (Bool) := if (l0.length : Int) = (l1.length : Int) then (sphragisref09_Same.l0 k l0 l1 0) else (some false)
theorem sphragisref09_Same.mono_l : ∀ k, (∀ y0 y1 y2, LeO (sphragisref09_Same.l0 k y0 y1 y2) (sphragisref09_Same.l0 (k + 1) y0 y1 y2))
  | 0 => fun _ _ _ r h => by simp [sphragisref09_Same.l0] at h
  | k + 1 => by
    have ih0 := sphragisref09_Same.mono_l k
    · intro y0 y1 y2
      unfold sphragisref09_Same.l0
      repeat' first
      | (with_reducible exact ih0 _ _ _)
      | (with_reducible exact LeO.refl _)
      | (with_reducible exact LeO.none _)
      | (with_reducible refine LeO.ite ?_ ?_)
      | (with_reducible refine LeO.bind ?_ (fun _ => ?_))
      | exact ih0 _ _ _
      | exact LeO.none _
      | refine LeO.ite ?_ ?_
      | refine LeO.bind ?_ (fun _ => ?_)
theorem sphragisref09_Same.mono : ∀ a0 a1 k, LeO (sphragisref09_Same.f k a0 a1) (sphragisref09_Same.f (k + 1) a0 a1) := by
  intro a0 a1 k
  have ih0 := sphragisref09_Same.mono_l k
  unfold sphragisref09_Same.f
  repeat' first
      | (with_reducible exact ih0 _ _ _)
      | (with_reducible exact LeO.refl _)
      | (with_reducible exact LeO.none _)
      | (with_reducible refine LeO.ite ?_ ?_)
      | (with_reducible refine LeO.bind ?_ (fun _ => ?_))
      | exact ih0 _ _ _
      | exact LeO.none _
      | refine LeO.ite ?_ ?_
      | refine LeO.bind ?_ (fun _ => ?_)
set_option maxHeartbeats 8000000 in
set_option maxRecDepth 100000 in
theorem sphragisref09_Same.calls (k : Nat) (A0 : Option Addr) (c0 : Nat) (l0 : List (S26)) (A1 : Option Addr) (c1 : Nat) (l1 : List (S26)) (r : Bool) (w : World) (hr0 : Kd.C k26 w A0 l0.length l0) (hc0 : l0.length ≤ c0) (hr1 : Kd.C k26 w A1 l1.length l1) (hc1 : l1.length ≤ c1) (h : sphragisref09_Same.f k l0 l1 = some r) :
    Calls Try.prog 15 #[.slice A0 l0.length c0, .slice A1 l1.length c1] w fun e w' => e = .returned (.bool r) ∧ Drawn0 w w' := by
  have hu26 := Try.underlying26
  have HR0 := Aside0.mk hr0
  have HC0 := Aside0.mk hc0
  clear hr0 hc0
  have HR1 := Aside0.mk hr1
  have HC1 := Aside0.mk hc1
  clear hr1 hc1
  have H : (if (l0.length : Int) = (l1.length : Int) then (sphragisref09_Same.l0 k l0 l1 0) else (some false)) = some r := h
  clear h
  by_cases c3 : (l0.length : Int) = (l1.length : Int)
  · rw [if_pos c3] at H
    have c3b0 : ((l0.length : Int) == (l1.length : Int)) = true := beq_iff_eq.mpr c3
    have c3b1 : ((l0.length : Int) != (l1.length : Int)) = false := bne_eq_false_iff_eq.mpr c3
    have c3b2 : (l0.length == l1.length) = true := by first | simpa using c3 | (simp at c3 ⊢; omega)
    clear c3
    have H' := Aside0.mk H
    clear H
    go_enter Try.func15, Try.ntmps15
    go_wp2
    repeat (go_quiet (fail); try go_wp2)
    go_loopg [5] k (fun kq v5 w' => ∃ (x5_1 : Int), v5 = .int .i64 x5_1 ∧ Aside0 (sphragisref09_Same.l0 kq l0 l1 x5_1 = some r) ∧ Aside0 (kq ≤ k) ∧ Drawn0 w w')
    case atStart => exact ⟨(0), (by first | rfl | (simp; done) | (simp [*]; done)), H', ⟨Nat.le_refl _⟩, by repeat (first | exact Drawn0.refl _ | apply Drawn0.step)⟩
    case round =>
      clear H'
      try clear c1
      try clear p2
      try clear c3
      try clear c3b0
      try clear c3b1
      try clear c3b2
      obtain ⟨x5_1, rfl, HA, HK1, ⟨m1, rfl⟩⟩ := hrel
      cases gk with
      | zero => exact absurd HA.out (by simp [sphragisref09_Same.l0])
      | succ k1 =>
        have H := HA.out
        clear HA
        simp only [sphragisref09_Same.l0] at H
        by_cases c4 : x5_1 < (l0.length : Int)
        · rw [if_pos c4] at H
          have c4b0 : decide (x5_1 < (l0.length : Int)) = true := decide_eq_true c4
          clear c4
          by_cases c5 : 0 ≤ x5_1
          · rw [if_pos c5] at H
            have c5b0 : decide (0 ≤ x5_1) = true := decide_eq_true c5
            clear c5
            by_cases c6 : x5_1 < (l1.length : Int)
            · rw [if_pos c6] at H
              have c6b0 : decide (x5_1 < (l1.length : Int)) = true := decide_eq_true c6
              clear c6
              by_cases c7 : (!(((rd_T26 l0 x5_1).f0) == ((rd_T26 l1 x5_1).f0)) || (!(((rd_T26 l0 x5_1).f1) == ((rd_T26 l1 x5_1).f1)) || (!(((rd_T26 l0 x5_1).f2) == ((rd_T26 l1 x5_1).f2)) || (!((((rd_T26 l0 x5_1).f3).toList) == (((rd_T26 l1 x5_1).f3).toList)))))) = true
              · rw [if_pos c7] at H
                have c7b0 : (!(((rd_T26 l0 x5_1).f0) == ((rd_T26 l1 x5_1).f0)) || (!(((rd_T26 l0 x5_1).f1) == ((rd_T26 l1 x5_1).f1)) || (!(((rd_T26 l0 x5_1).f2) == ((rd_T26 l1 x5_1).f2)) || (!((((rd_T26 l0 x5_1).f3).toList) == (((rd_T26 l1 x5_1).f3).toList)))))) = true := c7
                clear c7
                obtain rfl := Option.some.inj H
                have p108 : 0 ≤ (x5_1 : Int) := of_decide_eq_true (by first | (with_reducible assumption) | assumption)
                have q108 : x5_1 < (l0.length : Int) := of_decide_eq_true (by first | (with_reducible assumption) | assumption)
                obtain ⟨ad108, e108, hx108_0, hx108_1, hx108_2, hx108_3⟩ := at_T26 HR0.out x5_1 p108 q108
                cases e108
                replace p108 := eq_true p108
                replace q108 := eq_true q108
                have p109 : 0 ≤ (x5_1 : Int) := of_decide_eq_true (by first | (with_reducible assumption) | assumption)
                have q109 : x5_1 < (l1.length : Int) := of_decide_eq_true (by first | (with_reducible assumption) | assumption)
                obtain ⟨ad109, e109, hx109_0, hx109_1, hx109_2, hx109_3⟩ := at_T26 HR1.out x5_1 p109 q109
                cases e109
                replace p109 := eq_true p109
                replace q109 := eq_true q109
                go_wp2
                repeat (go_quiet (fail); try go_wp2)
                go_ret
                exact ⟨by first | rfl | (simp; done) | (simp [*]; done), by repeat (first | exact Drawn0.refl _ | apply Drawn0.step)⟩
              · rw [if_neg c7] at H
                have c7b0 : (!(((rd_T26 l0 x5_1).f0) == ((rd_T26 l1 x5_1).f0)) || (!(((rd_T26 l0 x5_1).f1) == ((rd_T26 l1 x5_1).f1)) || (!(((rd_T26 l0 x5_1).f2) == ((rd_T26 l1 x5_1).f2)) || (!((((rd_T26 l0 x5_1).f3).toList) == (((rd_T26 l1 x5_1).f3).toList)))))) = false := by simpa using c7
                clear c7
                have H' := Aside0.mk H
                clear H
                have p108 : 0 ≤ (x5_1 : Int) := of_decide_eq_true (by first | (with_reducible assumption) | assumption)
                have q108 : x5_1 < (l0.length : Int) := of_decide_eq_true (by first | (with_reducible assumption) | assumption)
                obtain ⟨ad108, e108, hx108_0, hx108_1, hx108_2, hx108_3⟩ := at_T26 HR0.out x5_1 p108 q108
                cases e108
                replace p108 := eq_true p108
                replace q108 := eq_true q108
                have p109 : 0 ≤ (x5_1 : Int) := of_decide_eq_true (by first | (with_reducible assumption) | assumption)
                have q109 : x5_1 < (l1.length : Int) := of_decide_eq_true (by first | (with_reducible assumption) | assumption)
                obtain ⟨ad109, e109, hx109_0, hx109_1, hx109_2, hx109_3⟩ := at_T26 HR1.out x5_1 p109 q109
                cases e109
                replace p109 := eq_true p109
                replace q109 := eq_true q109
                go_wp2
                repeat (go_quiet (fail); try go_wp2)
                go_roundg k1
                case measure => have := HK1.out; omega
                case rel => exact ⟨(wrap64 (x5_1 + 1)), (by first | rfl | (simp; done) | (simp [*]; done)), H', ⟨by have := HK1.out; omega⟩, by repeat (first | exact Drawn0.refl _ | apply Drawn0.step)⟩
            · rw [if_neg c6] at H
              exact absurd H (by simp)
          · rw [if_neg c5] at H
            exact absurd H (by simp)
        · rw [if_neg c4] at H
          have c4b0 : decide (x5_1 < (l0.length : Int)) = false := decide_eq_false c4
          clear c4
          obtain rfl := Option.some.inj H
          go_wp2
          repeat (go_quiet (fail); try go_wp2)
          go_ret
          exact ⟨by first | rfl | (simp; done) | (simp [*]; done), by repeat (first | exact Drawn0.refl _ | apply Drawn0.step)⟩
  · rw [if_neg c3] at H
    have c3b0 : ((l0.length : Int) == (l1.length : Int)) = false := beq_eq_false_iff_ne.mpr c3
    have c3b1 : ((l0.length : Int) != (l1.length : Int)) = true := bne_iff_ne.mpr c3
    have c3b2 : (l0.length == l1.length) = false := by first | simpa using c3 | (simp at c3 ⊢; omega)
    obtain rfl := Option.some.inj H
    go_enter Try.func15, Try.ntmps15
    go_wp2
    repeat (go_quiet (fail); try go_wp2)
    go_ret
    exact ⟨by first | rfl | (simp; done) | (simp [*]; done), by repeat (first | exact Drawn0.refl _ | apply Drawn0.step)⟩

-- NOT PRINTED: function 32 (plain_steps_1)

/-! ### plain_steps: function 28 -/
attribute [local go_sem] Oper.semAt_some
/-- What changes make, one behind the other, up to the first that is wrong. -/
def runS (k : Nat) : List S26 → List S28 → Option (List (List S26 × Int))
  | _, [] => some []
  | l, o :: os => (plain_Apply.f k l o.f0 o.f1.f0 o.f1.f1 o.f1.f2 o.f1.f3).bind fun q => if q.2 = 0 then (runS k q.1 os).map (q :: ·) else some [q]
theorem runS_mono (k : Nat) : ∀ (os : List S28) (l : List S26), LeO (runS k l os) (runS (k + 1) l os)
  | [], l => LeO.refl _
  | o :: os, l => by
    unfold runS
    refine LeO.bind (plain_Apply.mono _ _ _ _ _ _ _) (fun q => LeO.ite (LeO.map _ (runS_mono k os q.1)) (LeO.refl _))
/-- What the iterator hands on: a slice, the rows that it holds, an error. -/
structure StepE where
  v : Value
  rows : List S26
  e : Int
abbrev stepEncs (x : StepE) : Array Value := #[x.v, .int .i64 x.e]
abbrev stepOut (x : StepE) : List S26 × Int := (x.rows, x.e)

/-- Cells lie as they lay, but for the blocks from lo up to hi. -/
structure KeepC (lo hi : Nat) (A B : World) : Prop where
  size : A.heap.size ≤ B.heap.size
  same : ∀ q cs t fr, A.heap[q]? = some (.cells cs t fr) → (q < lo ∨ hi ≤ q) → B.heap[q]? = some (.cells cs t fr)
theorem KeepC.refl (lo hi : Nat) (A : World) : KeepC lo hi A A := ⟨Nat.le_refl _, fun _ _ _ _ h _ => h⟩
theorem KeepC.trans {lo hi : Nat} {A B C : World} (h : KeepC lo hi A B) (k : KeepC lo hi B C) : KeepC lo hi A C := ⟨Nat.le_trans h.size k.size, fun q cs t fr h1 h2 => k.same q cs t fr (h.same q cs t fr h1 h2) h2⟩
theorem KeepC.put {lo hi : Nat} (W : World) (l : Nat) (o o' : Obj) (h : W.heap[l]? = some o) (ho : o.isCells = false) : KeepC lo hi W (W.putObj l o') :=
  ⟨by simp, fun q cs t fr h1 _ => (World.putObj_heap_other (fun e => by subst e; rw [h] at h1; cases h1; cases ho)).trans h1⟩
theorem KeepC.set {lo hi : Nat} (W : World) (B : Nat) (o : Nat) (v : Value) (h1 : lo ≤ B) (h2 : B < hi) : KeepC lo hi W (W.setCell ⟨B, o, none⟩ v) :=
  ⟨by simp, fun q cs t fr h3 h4 => (Below.heap_setCell W ⟨B, o, none⟩ v q (by simp; omega)).trans h3⟩
theorem KeepC.of_below {lo hi : Nat} {A B : World} (h : Below A.heap.size A B) : KeepC lo hi A B := ⟨h.size, fun q cs t fr h1 _ => (h.block q (Array.getElem?_eq_some_iff.1 h1).1).trans h1⟩

theorem cell_block {W W' : World} {p : Addr} {u : Value} (h : W.cell? p = some u) (hk : ∀ cs t fr, W.heap[p.block]? = some (.cells cs t fr) → W'.heap[p.block]? = some (.cells cs t fr)) : W'.cell? p = some u := by
  cases hb : W.heap[p.block]? with
  | none => simp [World.cell?, hb] at h
  | some o =>
    cases o with
    | cells cs t fr => exact (World.cell?_of_block ((hk cs t fr hb).trans hb.symm)).trans h
    | _ => simp [World.cell?, hb] at h
theorem C_blocks {α : Type} {d : Kd α} {W W' : World} {A : Option Addr} {n : Nat} {xs : List α} (hd : ∀ {w w' : World} {x : α} {cs : List Value}, d.K w x cs → d.K w' x cs) (h : d.C W A n xs) (ok : Nat → Prop) (hA : ∀ ad, A = some ad → 0 < n → ok ad.block)
    (hk : ∀ q cs t fr, ok q → W.heap[q]? = some (.cells cs t fr) → W'.heap[q]? = some (.cells cs t fr)) : d.C W' A n xs :=
  ⟨h.1, h.2.1, fun hn => by
    obtain ⟨ad, e, hc⟩ := h.2.2 hn
    refine ⟨ad, e, fun j p hj => ?_⟩
    obtain ⟨c, hl, hK, hcc⟩ := hc j p hj
    exact ⟨c, hl, hd hK, fun i u hu => cell_block (hcc i u hu) (fun cs t fr h3 => hk _ cs t fr (by rw [show (ad.add (j * d.sz + i)).block = ad.block by unfold Addr.add; split <;> rfl]; exact hA ad e hn) h3)⟩⟩
theorem k_row_any {w w' : World} {x : S26} {cs : List Value} (h : k26.K w x cs) : k26.K w' x cs := by
  obtain rfl := k26_open h
  exact k26_mk w' x
theorem k_op_any {w w' : World} {x : S28} {cs : List Value} (h : k28.K w x cs) : k28.K w' x cs := by
  obtain rfl := k28_open h
  exact k28_mk w' x
/-- A row of the call's own stays where its block of cells stays. -/
theorem R_blocks {W W' : World} {base : Nat} {v : Value} {xs : List S26} (h : Kd.R k26 26 W base (fun _ => True) v xs)
    (hk : ∀ q cs t fr, base ≤ q → W.heap[q]? = some (.cells cs t fr) → W'.heap[q]? = some (.cells cs t fr)) : Kd.R k26 26 W' base (fun _ => True) v xs := by
  obtain ⟨_, inner, hown, _⟩ := id h
  refine Kd.R_mono (Kd.R_step (Kd.R_tight rfl h) (fun q hq hlt => ?_)) (fun _ _ => trivial)
  obtain ⟨cs, hcs⟩ := own_typed hown q hq.symm
  exact (hk q cs _ _ (hown.lt q hq.symm).1 hcs).trans hcs.symm

/-- A slice that holds rows, in blocks that nobody turns. -/
def HoldsR (lo n₀ : Nat) (W : World) (v : Value) (rows : List S26) : Prop :=
  ∃ A c, v = .slice A rows.length c ∧ rows.length ≤ c ∧ (∀ ad, A = some ad → 0 < rows.length → (ad.block < lo ∨ n₀ ≤ ad.block)) ∧ Kd.C k26 W A rows.length rows
theorem HoldsR.keep {lo n₀ : Nat} {W W' : World} {v : Value} {rows : List S26} (h : HoldsR lo n₀ W v rows) (hk : ∀ q cs t fr, (q < lo ∨ n₀ ≤ q) → W.heap[q]? = some (.cells cs t fr) → W'.heap[q]? = some (.cells cs t fr)) : HoldsR lo n₀ W' v rows := by
  obtain ⟨A, c, e, hc, hA, hC⟩ := h
  exact ⟨A, c, e, hc, hA, C_blocks k_row_any hC _ hA hk⟩
theorem HoldsR.of_R {lo n₀ : Nat} {W : World} {v : Value} {rows : List S26} (h : Kd.R k26 26 W n₀ (fun _ => True) v rows) : HoldsR lo n₀ W v rows := by
  obtain ⟨A, c, e⟩ := Kd.R_slice h
  subst e
  obtain ⟨_, hc, hC⟩ := Kd.R_reads' h
  refine ⟨A, c, rfl, hc, fun ad e hn => .inr ?_, hC⟩
  subst e
  obtain ⟨_, inner, hown, _⟩ := h
  exact (hown.lt ad.block (by simp [Value.ownBlock])).1

set_option maxHeartbeats 1000000 in
theorem plain_steps.calls (A0 : Option Addr) (n0 c0 : Nat) (A1 : Option Addr) (n1 c1 : Nat) (w : World) :
    CallsIn Fence.wide 8 Try.prog 28 #[.slice A0 n0 c0, .slice A1 n1 c1] w fun e w' =>
      e = .returned (.func (.func 32) #[] #[.pointer (some ⟨w.heap.size + 1, 0, none⟩), .pointer (some ⟨w.heap.size, 0, none⟩)]) ∧ (w.alloc (.cells #[.slice A0 n0 c0] 22)).alloc (.cells #[.slice A1 n1 c1] 36) = w' := by
  refine callsIn_of_wp Try.func28 rfl trivial ?_ rfl
  simp only [Try.ntmps28, List.size_toArray, List.length_cons, List.length_nil, Nat.reduceAdd, Nat.reduceSub, Array.replicate_succ, Array.replicate_zero, List.push_toArray, List.append_toArray, List.nil_append, List.cons_append]
  gi_wp2
  go_ret
  exact ⟨rfl, rfl⟩

set_option maxRecDepth 100000 in
set_option maxHeartbeats 4000000 in
theorem plain_steps.stops (k lo hi n₀ Bl Bo : Nat) (l0 : List S26) (ops : List S28) (cs : List (List S26 × Int)) (hcs : runS k l0 ops = some cs) (A0 : Option Addr) (c0 : Nat) (A1 : Option Addr) (c1 : Nat) (w : World)
    (bl : w.heap[Bl]? = some (.cells #[.slice A0 l0.length c0] 22 (0, 0))) (bo : w.heap[Bo]? = some (.cells #[.slice A1 ops.length c1] 36 (0, 0))) (hll : hi ≤ Bl) (hlo : hi ≤ Bo) (hne : Bl ≠ Bo) (hnl : Bl < n₀) (hno : Bo < n₀) (hn₀ : n₀ ≤ w.heap.size) (hlh : lo ≤ hi)
    (hC0 : Kd.C k26 w A0 l0.length l0) (hc0 : l0.length ≤ c0) (hA0 : ∀ ad, A0 = some ad → 0 < l0.length → ad.block < lo)
    (hC1 : Kd.C k28 w A1 ops.length ops) (hA1 : ∀ ad, A1 = some ad → 0 < ops.length → ad.block < lo) (h64 : ops.length ≤ 64) :
    SeqStopsE Fence.wide 8 Try.prog 32 #[.pointer (some ⟨Bo, 0, none⟩), .pointer (some ⟨Bl, 0, none⟩)] stepEncs (fun r => r = Bl) (fun x W => Kd.R k26 26 W n₀ (fun _ => True) x.v x.rows) (fun x => x.e = 0) (KeepC lo hi)
      (fun xs => xs.map stepOut = cs ∧ ∀ x ∈ xs, x.e = 0) (fun pre => pre.map stepOut <+: cs) ops.length w := fun l' J Jx W hW hJ hJx hY h0 => by
  refine callsIn_of_wp Try.func32 rfl trivial ?_ rfl
  simp only [Try.ntmps32, List.size_toArray, List.length_cons, List.length_nil, Nat.reduceAdd, Nat.reduceSub, Array.replicate_succ, Array.replicate_zero, List.push_toArray, List.append_toArray, List.nil_append, List.cons_append]
  have bl1 := boxc_below bl (hW.mono (Nat.le_refl _))
  have bo1 := boxc_below bo (hW.mono (Nat.le_refl _))
  have k0 := boxc_cell bo1 0
  have k1 := boxc_cell bl1 0
  have hsz : n₀ ≤ W.heap.size := Nat.le_trans hn₀ hW.size
  have f12 : Fence.wide.fn 12 := trivial
  have hst : HoldsR lo n₀ W (.slice A0 l0.length c0) l0 := ⟨A0, c0, rfl, hc0, fun ad e hn => .inl (hA0 ad e hn), Kd.C_below hC0 (hW.mono (Nat.le_refl _))⟩
  have hop : Kd.C k28 W A1 ops.length ops := Kd.C_below hC1 (hW.mono (Nat.le_refl _))
  have HST := Aside0.mk hst
  have HOP := Aside0.mk hop
  have HJ := Aside0.mk hJ
  have HY := Aside0.mk hY
  have HCS := Aside0.mk hcs
  have H0 := Aside0.mk h0
  have BL := Aside0.mk bl1
  have BO := Aside0.mk bo1
  have HA1 := Aside0.mk hA1
  clear hst hop hJ hY hcs h0 hC0 hC1 hA0 hA1 hJx
  gi_wp2_with fail
  gi_loopw [10] (fun i wr => ∃ (j : Nat) (pre : List StepE) (rows : List S26) (v : Value) (rest : List (List S26 × Int)), i = .int .i64 (j : Int) ∧ j ≤ ops.length ∧ Aside0 (pre.length = j ∧ J pre wr ∧ wr.heap[Bl]? = some (.cells #[v] 22 (0, 0)) ∧ wr.heap[Bo]? = some (.cells #[.slice A1 ops.length c1] 36 (0, 0)) ∧ HoldsR lo n₀ wr v rows ∧ Kd.C k28 wr A1 ops.length ops ∧ n₀ ≤ wr.heap.size ∧ W.heap.size ≤ wr.heap.size ∧
      runS k rows (ops.drop j) = some rest ∧ cs = pre.map stepOut ++ rest ∧ ∀ x ∈ pre, x.e = 0))
    (fun i _ => ops.length - (intOf i).toNat)
  case atStart => exact ⟨0, [], l0, _, cs, rfl, Nat.zero_le _, ⟨rfl, H0.out, BL.out, BO.out, HST.out, HOP.out, hsz, Nat.le_refl _, by simpa using HCS.out, rfl, by simp⟩⟩
  case round =>
    obtain ⟨j, pre, rows, v, rest, rfl, hj, ⟨hpl, hJ1, bl2, bo2, hR, hO, hz, hWz, hrun, hcsr, hall⟩⟩ := hrel
    have HPL := Aside0.mk hpl
    have HJ1 := Aside0.mk hJ1
    have BL2 := Aside0.mk bl2
    have BO2 := Aside0.mk bo2
    have HR := Aside0.mk hR
    have HO := Aside0.mk hO
    have HRUN := Aside0.mk hrun
    have HCR := Aside0.mk hcsr
    have HALL := Aside0.mk hall
    clear hpl hJ1 bl2 bo2 hR hO hrun hcsr hall BL BO HST HOP H0 HCS
    by_cases hlt : j < ops.length
    · obtain ⟨ad, e, x0, x1, x2, x3, x4⟩ := at_T28 HO.out (j : Int) (by omega) (by omega)
      cases e
      simp only [Int.toNat_natCast] at x0 x1 x2 x3 x4
      generalize hy : rd_T28 ops (j : Int) = o at *
      have hdrop : ops.drop j = o :: ops.drop (j + 1) := by
        rw [List.drop_eq_getElem_cons hlt, ← hy]
        unfold rd_T28
        simp [List.getD, hlt]
      have hrun2 := HRUN.out
      rw [hdrop, runS] at hrun2
      obtain ⟨⟨m, er⟩, happ, hrest⟩ := Option.bind_eq_some_iff.1 hrun2
      dsimp only at hrest
      have HAPP := Aside0.mk happ
      have HREST := Aside0.mk hrest
      obtain ⟨Ar, cr, ev, hcr, hAr, hCr⟩ := HR.out
      subst ev
      have HCr := Aside0.mk hCr
      clear hy hdrop hrun2 happ hrest hAr hCr
      have l0 := boxc_cell (boxc_alloc BL2.out (.cells #[.int .i64 o.f0, .int .u64 o.f1.f0, .int .u32 o.f1.f1, .int .u32 o.f1.f2, .string o.f1.f3] 28)) 0
      gi_wp2_with fail
      refine (callsIn_wide.2 (plain_Apply.calls k Ar cr rows o.f0 o.f1.f0 o.f1.f1 o.f1.f2 o.f1.f3 m er _ (Kd.C_alloc HCr.out _) hcr HAPP.out)).mono ?_
      rintro e2 w2 ⟨v2, rfl, hR2, hb2⟩
      have hz2 := hb2.size
      simp only [World.size_alloc] at hz2
      have hJ2 : J pre w2 := HJ.out pre _ w2 none (HJ.out pre wr _ none HJ1.out (grown_of_below (below_alloc' (Below.refl _ wr) (.cells #[.int .i64 o.f0, .int .u64 o.f1.f0, .int .u32 o.f1.f1, .int .u32 o.f1.f2, .string o.f1.f3] 28)) none) (by simp)) (grown_of_below hb2 none) (by simp)
      have hR3 := Kd.R_lower (base' := n₀) hR2 (by simp; omega)
      obtain ⟨A2, c2, ev2⟩ := Kd.R_slice hR3
      subst ev2
      obtain ⟨fn, tmps, assign, body, hy, hRd⟩ := HY.out pre ⟨.slice A2 m.length c2, m, er⟩ w2 hJ2 hR3 (by have := HPL.out; omega)
      dsimp only [stepEncs] at hy
      have B3 := Aside0.mk (boxc_below (boxc_alloc BL2.out (.cells #[.int .i64 o.f0, .int .u64 o.f1.f0, .int .u32 o.f1.f1, .int .u32 o.f1.f2, .string o.f1.f3] 28)) hb2)
      have B4 := Aside0.mk (boxc_below (boxc_alloc BO2.out (.cells #[.int .i64 o.f0, .int .u64 o.f1.f0, .int .u32 o.f1.f1, .int .u32 o.f1.f2, .string o.f1.f3] 28)) hb2)
      have HO2 := Aside0.mk (Kd.C_below (Kd.C_alloc HO.out (.cells #[.int .i64 o.f0, .int .u64 o.f1.f0, .int .u32 o.f1.f1, .int .u32 o.f1.f2, .string o.f1.f3] 28)) hb2)
      have HR3 := Aside0.mk hR3
      clear hR2 hb2 hJ2 hR3 x0 x1 x2 x3 x4 l0
      gi_wp2_with fail
      refine hRd.mono ?_
      rintro e W3 (⟨rfl, hJ3, hg3, hk3⟩ | ⟨rfl, hJx3⟩)
      · subst hg3
        have b5 := hk3.same Bl _ _ _ B3.out (.inr hll)
        have b6 := hk3.same Bo _ _ _ B4.out (.inr hlo)
        have c5 := boxc_cell b5 0
        have z5 := boxc_frozen b5 0
        have z3 := hk3.size
        have HJ3 := Aside0.mk hJ3
        have HK3 := Aside0.mk hk3
        have B5 := Aside0.mk b5
        have B6 := Aside0.mk b6
        clear hJ3 hk3 hy hRd b5 b6
        gi_wp2_with fail
        go_roundw
        case rel =>
          have hr := HREST.out
          simp only [if_true] at hr
          obtain ⟨rest', hr', e'⟩ := Option.map_eq_some_iff.1 hr
          refine ⟨j + 1, pre ++ [⟨.slice A2 m.length c2, m, 0⟩], m, _, rest', rfl, by omega, ⟨by simp [HPL.out], HJ.out _ W3 _ (some Bl) HJ3.out (grownBy_setCell' W3 Bl _) (fun r e => .inl (by cases e; rfl)), by simpa using blk_set B5.out 0 (.slice A2 m.length c2), boxc_far B6.out (by simpa using hne.symm) _, ?_, ?_, by simp; omega, by simp; omega, hr', ?_, ?_⟩⟩
          · exact HoldsR.of_R (R_blocks (R_blocks HR3.out (fun q cs t fr hq h => HK3.out.same q cs t fr h (.inr (by omega)))) (fun q cs t fr hq h => boxc_far h (by simp; omega) _))
          · exact C_blocks k_op_any (C_blocks k_op_any HO2.out (fun q => q < lo) (fun ad e hn => HA1.out ad e hn) (fun q cs t fr hq h => HK3.out.same q cs t fr h (.inl hq))) (fun q => q < lo) (fun ad e hn => HA1.out ad e hn) (fun q cs t fr hq h => boxc_far h (by simp; omega) _)
          · rw [HCR.out, ← e']; simp
          · intro x hx
            rcases List.mem_append.1 hx with h | h
            · exact HALL.out x h
            · rw [List.mem_singleton.1 h]
        case measure => simp [intOf]; omega
      · have HJX := Aside0.mk hJx3
        clear hJx3 hy hRd
        gi_wp2_with fail
        refine bodyPost_ret (results_none rfl _ _ _) rfl ?_
        refine ⟨⟨_, rfl⟩, .inr ⟨_, ?_, HJX.out⟩⟩
        have hr := HREST.out
        rw [HCR.out]
        by_cases he : er = 0
        · rw [if_pos he] at hr
          obtain ⟨rest', hr', e'⟩ := Option.map_eq_some_iff.1 hr
          exact ⟨rest', by rw [← e']; simp⟩
        · rw [if_neg he] at hr
          exact ⟨[], by rw [← Option.some.inj hr]; simp⟩
    · have hjl : j = ops.length := by omega
      have hr := HRUN.out
      rw [hjl, List.drop_length, runS] at hr
      have hrest : rest = [] := (Option.some.inj hr).symm
      have HC2 : Aside0 (pre.map stepOut = cs) := ⟨by rw [HCR.out, hrest]; simp⟩
      clear hr hrest
      gi_wp2_with fail
      go_end0
      exact ⟨⟨_, rfl⟩, .inl ⟨pre, ⟨HC2.out, HALL.out⟩, HJ1.out⟩⟩

/-! ### plain_Batch: function 16 -/
attribute [local go_sem] Oper.semAt_some
/-- What comes of the steps. -/
def finS (cs : List (List S26 × Int)) : List S26 × Int × Int :=
  match cs.getLast? with
  | some q => if q.2 = 0 then (q.1, 0, 0) else ([], ((cs.length - 1 : Nat) : Int), q.2)
  | none => ([], 0, 0)
def plain_Batch.f (k : Nat) (l0 : List S26) (l1 : List S28) : Option (List S26 × Int × Int) :=
  (quad_Right.f k l0).bind fun t => if t = true then (if l1.length = 0 ∨ 64 < l1.length then some ([], 0, 101) else (runS k l0 l1).map finS) else some ([], 0, 80)
theorem plain_Batch.mono (l0 : List S26) (l1 : List S28) (k : Nat) : LeO (plain_Batch.f k l0 l1) (plain_Batch.f (k + 1) l0 l1) := by
  unfold plain_Batch.f
  exact LeO.bind (quad_Right.mono _ _) (fun _ => LeO.ite (LeO.ite (LeO.refl _) (LeO.map _ (runS_mono k _ _))) (LeO.refl _))
theorem runS_ne {k : Nat} {l : List S26} {o : S28} {os : List S28} {cs : List (List S26 × Int)} (h : runS k l (o :: os) = some cs) : cs ≠ [] := by
  rw [runS] at h
  obtain ⟨q, _, h⟩ := Option.bind_eq_some_iff.1 h
  split at h
  · obtain ⟨r, _, rfl⟩ := Option.map_eq_some_iff.1 h; simp
  · rw [← Option.some.inj h]; simp

set_option maxRecDepth 100000 in
set_option maxHeartbeats 4000000 in
theorem batch_no (k : Nat) (A0 : Option Addr) (c0 : Nat) (l0 : List S26) (A1 : Option Addr) (c1 n1 : Nat)  (w : World) (hr0 : Kd.C k26 w A0 l0.length l0) (hc0 : l0.length ≤ c0) (A1h : Aside0 (quad_Right.f k l0 = some false)) :
    Calls Try.prog 16 #[.slice A0 l0.length c0, .slice A1 n1 c1] w fun e w' => ∃ v0_ : Value, e = .returned (.tuple #[v0_, .int .i64 0, .int .i64 80]) ∧ Kd.R k26 26 w' w.heap.size (fun _ => True) v0_ [] ∧ Below w.heap.size w w' := by
  have HR0 := Aside0.mk hr0
  clear hr0
  refine (callsIn_wide (n := 9)).1 ?_
  refine callsIn_of_wp_marks Try.func16 rfl trivial ?_ rfl
  simp only [Try.ntmps16, List.size_toArray, List.length_cons, List.length_nil, Nat.reduceAdd, Nat.reduceSub, Array.replicate_succ, Array.replicate_zero, List.push_toArray, List.append_toArray, List.nil_append, List.cons_append]
  have f18 : Fence.wide.fn 18 := trivial
  gi_wp2_with fail
  refine wpIn_scope_wide ?_
  gi_wp2_with fail
  refine (callsIn_wide.2 (quad_Right.calls k A0 c0 l0 false _ HR0.out hc0 A1h.out)).mono ?_
  rintro e1 w1 ⟨rfl, hb1⟩
  have HB1 := Aside0.mk hb1
  clear hb1
  gi_wp2_with fail
  rw [Exit.noGoto_ret]
  exact ⟨.tuple #[.slice none 0 0, .int .i64 0, .int .i64 80], by simp [results, Try.results16, go_sem], _, rfl, Kd.R_nil _ _ _ _ _, HB1.out⟩

set_option maxRecDepth 100000 in
set_option maxHeartbeats 4000000 in
theorem batch_0 (k : Nat) (A0 : Option Addr) (c0 : Nat) (l0 : List S26) (A1 : Option Addr) (c1 n1 : Nat)  (w : World) (hr0 : Kd.C k26 w A0 l0.length l0) (hc0 : l0.length ≤ c0) (A1h : Aside0 (quad_Right.f k l0 = some true)) (hn : n1 = 0) :
    Calls Try.prog 16 #[.slice A0 l0.length c0, .slice A1 n1 c1] w fun e w' => ∃ v0_ : Value, e = .returned (.tuple #[v0_, .int .i64 0, .int .i64 101]) ∧ Kd.R k26 26 w' w.heap.size (fun _ => True) v0_ [] ∧ Below w.heap.size w w' := by
  subst hn
  have HR0 := Aside0.mk hr0
  clear hr0
  refine (callsIn_wide (n := 9)).1 ?_
  refine callsIn_of_wp_marks Try.func16 rfl trivial ?_ rfl
  simp only [Try.ntmps16, List.size_toArray, List.length_cons, List.length_nil, Nat.reduceAdd, Nat.reduceSub, Array.replicate_succ, Array.replicate_zero, List.push_toArray, List.append_toArray, List.nil_append, List.cons_append]
  have f18 : Fence.wide.fn 18 := trivial
  gi_wp2_with fail
  refine wpIn_scope_wide ?_
  gi_wp2_with fail
  refine (callsIn_wide.2 (quad_Right.calls k A0 c0 l0 true _ HR0.out hc0 A1h.out)).mono ?_
  rintro e1 w1 ⟨rfl, hb1⟩
  have HB1 := Aside0.mk hb1
  clear hb1
  gi_wp2_with fail
  rw [Exit.noGoto_ret]
  exact ⟨.tuple #[.slice none 0 0, .int .i64 0, .int .i64 101], by simp [results, Try.results16, go_sem], _, rfl, Kd.R_nil _ _ _ _ _, HB1.out⟩

set_option maxRecDepth 100000 in
set_option maxHeartbeats 4000000 in
theorem batch_big (k : Nat) (A0 : Option Addr) (c0 : Nat) (l0 : List S26) (A1 : Option Addr) (c1 n1 : Nat)  (w : World) (hr0 : Kd.C k26 w A0 l0.length l0) (hc0 : l0.length ≤ c0) (A1h : Aside0 (quad_Right.f k l0 = some true)) (hn : 64 < n1) :
    Calls Try.prog 16 #[.slice A0 l0.length c0, .slice A1 n1 c1] w fun e w' => ∃ v0_ : Value, e = .returned (.tuple #[v0_, .int .i64 0, .int .i64 101]) ∧ Kd.R k26 26 w' w.heap.size (fun _ => True) v0_ [] ∧ Below w.heap.size w w' := by
  have hn2 : decide (64 < (n1 : Int)) = true := decide_eq_true (by omega)
  have hn3 : ((n1 : Int) == 0) = false := beq_eq_false_iff_ne.2 (by omega)
  clear hn
  have HR0 := Aside0.mk hr0
  clear hr0
  refine (callsIn_wide (n := 9)).1 ?_
  refine callsIn_of_wp_marks Try.func16 rfl trivial ?_ rfl
  simp only [Try.ntmps16, List.size_toArray, List.length_cons, List.length_nil, Nat.reduceAdd, Nat.reduceSub, Array.replicate_succ, Array.replicate_zero, List.push_toArray, List.append_toArray, List.nil_append, List.cons_append]
  have f18 : Fence.wide.fn 18 := trivial
  gi_wp2_with fail
  refine wpIn_scope_wide ?_
  gi_wp2_with fail
  refine (callsIn_wide.2 (quad_Right.calls k A0 c0 l0 true _ HR0.out hc0 A1h.out)).mono ?_
  rintro e1 w1 ⟨rfl, hb1⟩
  have HB1 := Aside0.mk hb1
  clear hb1
  gi_wp2_with fail
  rw [Exit.noGoto_ret]
  exact ⟨.tuple #[.slice none 0 0, .int .i64 0, .int .i64 101], by simp [results, Try.results16, go_sem], _, rfl, Kd.R_nil _ _ _ _ _, HB1.out⟩

theorem boxE {Bl B q : Nat} {X Y : World} {row : Option Nat} {cs : Array Value} {t : TypeId} {fr : Nat × Nat} (h : X.heap[q]? = some (.cells cs t fr)) (hq : q ≠ Bl) (hg : X.grownBy Y row)
    (hr : ∀ r, row = some r → r = Bl ∨ (B ≤ r ∧ ∃ o : Obj, X.heap[r]? = some o ∧ o.isCells = false)) : Y.heap[q]? = some (.cells cs t fr) :=
  (hg.block q (boxc_lt h) (fun e => by
    rcases hr q e.symm with h1 | ⟨_, o, ho, hc⟩
    · exact hq h1
    · rw [h] at ho; cases ho; cases hc)).trans h
theorem runS_err {k : Nat} : ∀ (ops : List S28) (l : List S26) (cs p : List (List S26 × Int)) (q : List S26 × Int), runS k l ops = some cs → (p ++ [q]) <+: cs → q.2 ≠ 0 → cs = p ++ [q]
  | [], l, cs, p, q, h, hp, hq => by
    rw [runS] at h
    rw [← Option.some.inj h] at hp
    have := hp.length_le
    simp at this
  | o :: os, l, cs, p, q, h, hp, hq => by
    rw [runS] at h
    obtain ⟨q0, _, h⟩ := Option.bind_eq_some_iff.1 h
    by_cases h0 : q0.2 = 0
    · rw [if_pos h0] at h
      obtain ⟨r, hr, rfl⟩ := Option.map_eq_some_iff.1 h
      cases p with
      | nil =>
        rw [List.nil_append, List.cons_prefix_cons] at hp
        exact absurd (by rw [hp.1]; exact h0) hq
      | cons a p' =>
        rw [List.cons_append, List.cons_prefix_cons] at hp
        rw [hp.1, List.cons_append, runS_err os _ r p' q hr hp.2 hq]
    · rw [if_neg h0] at h
      rw [← Option.some.inj h] at hp ⊢
      cases p with
      | nil => rw [List.nil_append, List.cons_prefix_cons] at hp; rw [hp.1]; rfl
      | cons a p' =>
        have := hp.length_le
        simp at this

set_option maxRecDepth 100000 in
set_option maxHeartbeats 4000000 in
theorem batch_go (k : Nat) (A0 : Option Addr) (c0 : Nat) (l0 : List S26) (A1 : Option Addr) (c1 : Nat) (l1 : List S28) (cs : List (List S26 × Int)) (w : World) (hr0 : Kd.C k26 w A0 l0.length l0) (hc0 : l0.length ≤ c0) (hr1 : Kd.C k28 w A1 l1.length l1) (hc1 : l1.length ≤ c1) (A1h : Aside0 (quad_Right.f k l0 = some true)) (hn : 0 < l1.length) (hn2 : l1.length ≤ 64) (hcs : runS k l0 l1 = some cs) :
    Calls Try.prog 16 #[.slice A0 l0.length c0, .slice A1 l1.length c1] w fun e w' => ∃ v0_ : Value, e = .returned (.tuple #[v0_, .int .i64 (finS cs).2.1, .int .i64 (finS cs).2.2]) ∧ Kd.R k26 26 w' w.heap.size (fun _ => True) v0_ (finS cs).1 ∧ Below w.heap.size w w' := by
  have HR1 := Aside0.mk hr1
  have HCS := Aside0.mk hcs
  clear hr1 hcs
  have hn3 : ((l1.length : Int) == 0) = false := beq_eq_false_iff_ne.2 (by omega)
  have hn4 : decide (64 < (l1.length : Int)) = false := decide_eq_false (by omega)
  have HN := Aside0.mk hn
  have HN2 := Aside0.mk hn2
  clear hn hn2
  have f28 : Fence.wide.fn 28 := trivial
  have HR0 := Aside0.mk hr0
  clear hr0
  refine (callsIn_wide (n := 9)).1 ?_
  refine callsIn_of_wp_marks Try.func16 rfl trivial ?_ rfl
  simp only [Try.ntmps16, List.size_toArray, List.length_cons, List.length_nil, Nat.reduceAdd, Nat.reduceSub, Array.replicate_succ, Array.replicate_zero, List.push_toArray, List.append_toArray, List.nil_append, List.cons_append]
  have f18 : Fence.wide.fn 18 := trivial
  gi_wp2_with fail
  refine wpIn_scope_wide ?_
  gi_wp2_with fail
  refine (callsIn_wide.2 (quad_Right.calls k A0 c0 l0 true _ HR0.out hc0 A1h.out)).mono ?_
  rintro e1 w1 ⟨rfl, hb1⟩
  have HB1 := Aside0.mk hb1
  clear hb1
  gi_wp2_with fail
  refine wpIn_label ?_
  gi_wp2_with (gi_at_call 28; refine (CallsIn.mono (plain_steps.calls _ _ _ _ _ _ _) ?_); rintro e w2 ⟨rfl, rfl⟩)
  obtain ⟨W0, hW0⟩ : ∃ W0 : World, (((((w1.alloc (.cells #[.int .i64 0] 3)).alloc (.cells #[.slice A0 l0.length c0] 22)).alloc (.cells #[.int .i64 0] 30)).alloc (.cells #[.slice A0 l0.length c0] 22)).alloc (.cells #[.slice A1 l1.length c1] 36)) = W0 := ⟨_, rfl⟩
  have hsz : W0.heap.size = w1.heap.size + 5 := by rw [← hW0]; simp
  have hw1 := HB1.out.size
  have hB0 : Below w.heap.size w W0 := by
    rw [← hW0]
    exact below_alloc' (below_alloc' (below_alloc' (below_alloc' (below_alloc' HB1.out _) _) _) _) _
  have b7 : W0.heap[w1.heap.size]? = some (.cells #[.int .i64 0] 3 (0, 0)) := by
    rw [← hW0]; have := boxc_alloc (boxc_alloc (boxc_alloc (boxc_alloc (boxc_new w1 #[.int .i64 0] 3) (.cells #[.slice A0 l0.length c0] 22)) (.cells #[.int .i64 0] 30)) (.cells #[.slice A0 l0.length c0] 22)) (.cells #[.slice A1 l1.length c1] 36); simpa using this
  have b8 : W0.heap[w1.heap.size + 1]? = some (.cells #[.slice A0 l0.length c0] 22 (0, 0)) := by
    rw [← hW0]; have := boxc_alloc (boxc_alloc (boxc_alloc (boxc_new (w1.alloc (.cells #[.int .i64 0] 3)) #[.slice A0 l0.length c0] 22) (.cells #[.int .i64 0] 30)) (.cells #[.slice A0 l0.length c0] 22)) (.cells #[.slice A1 l1.length c1] 36); simpa using this
  have b9 : W0.heap[w1.heap.size + 1 + 1]? = some (.cells #[.int .i64 0] 30 (0, 0)) := by
    rw [← hW0]; have := boxc_alloc (boxc_alloc (boxc_new ((w1.alloc (.cells #[.int .i64 0] 3)).alloc (.cells #[.slice A0 l0.length c0] 22)) #[.int .i64 0] 30) (.cells #[.slice A0 l0.length c0] 22)) (.cells #[.slice A1 l1.length c1] 36); simpa using this
  have bl : W0.heap[w1.heap.size + 1 + 1 + 1]? = some (.cells #[.slice A0 l0.length c0] 22 (0, 0)) := by
    rw [← hW0]; have := boxc_alloc (boxc_new (((w1.alloc (.cells #[.int .i64 0] 3)).alloc (.cells #[.slice A0 l0.length c0] 22)).alloc (.cells #[.int .i64 0] 30)) #[.slice A0 l0.length c0] 22) (.cells #[.slice A1 l1.length c1] 36); simpa using this
  have bo : W0.heap[w1.heap.size + 1 + 1 + 1 + 1]? = some (.cells #[.slice A1 l1.length c1] 36 (0, 0)) := by
    rw [← hW0]; have := boxc_new ((((w1.alloc (.cells #[.int .i64 0] 3)).alloc (.cells #[.slice A0 l0.length c0] 22)).alloc (.cells #[.int .i64 0] 30)).alloc (.cells #[.slice A0 l0.length c0] 22)) #[.slice A1 l1.length c1] 36; simpa using this
  rw [hW0]
  clear hW0
  refine wpIn_rangeFunc_E (w := W0) rfl (by decide) (gf := 32) (lb := #[.pointer (some ⟨w1.heap.size + 1 + 1 + 1 + 1, 0, none⟩), .pointer (some ⟨w1.heap.size + 1 + 1 + 1, 0, none⟩)]) rfl trivial (enters_of Try.func32 (by kernel_rfl) rfl)
    (plain_steps.stops k w1.heap.size (w1.heap.size + 3) W0.heap.size (w1.heap.size + 1 + 1 + 1) (w1.heap.size + 1 + 1 + 1 + 1) l0 l1 cs HCS.out A0 c0 A1 c1 W0 bl bo (by omega) (by omega) (by omega) (by omega) (by omega) (Nat.le_refl _) (by omega)
      (Kd.C_below HR0.out (hB0.mono (Nat.le_refl _))) hc0 (fun ad e hn => by subst e; exact Nat.lt_of_lt_of_le (Kd.C_lt HR0.out hn (by decide)) hw1) (Kd.C_below HR1.out (hB0.mono (Nat.le_refl _))) (fun ad e hn => by subst e; exact Nat.lt_of_lt_of_le (Kd.C_lt HR1.out hn (by decide)) hw1) HN2.out)
    (fun r e => by omega) (fun h k => KeepC.trans h k) (fun W l o o' _ h hc _ => KeepC.put W l o o' h hc) (Below.refl _ _) (fun _ => rfl)
    (fun pre W => W.heap[w1.heap.size]? = some (.cells #[.int .i64 (pre.length : Int)] 3 (0, 0)) ∧ (∃ v, W.heap[w1.heap.size + 1]? = some (.cells #[v] 22 (0, 0)) ∧ ∀ x, pre.getLast? = some x → v = x.v) ∧ W.heap[w1.heap.size + 1 + 1]? = some (.cells #[.int .i64 0] 30 (0, 0)) ∧ Below w.heap.size w W ∧ W0.heap.size ≤ W.heap.size ∧ ∀ x, pre.getLast? = some x → Kd.R k26 26 W W0.heap.size (fun _ => True) x.v x.rows)
    (fun c pre W => c = .exit 1 ∧ ∃ x, pre.getLast? = some x ∧ x.e ≠ 0 ∧ W.heap[w1.heap.size]? = some (.cells #[.int .i64 ((pre.length - 1 : Nat) : Int)] 3 (0, 0)) ∧ W.heap[w1.heap.size + 1 + 1]? = some (.cells #[.int .i64 x.e] 30 (0, 0)) ∧ Below w.heap.size w W)
    (fun s X Y row ⟨h1, ⟨v, h2, hv⟩, h3, h4, h5, h6⟩ hg hr => ⟨boxE h1 (by omega) hg hr, ⟨v, boxE h2 (by omega) hg hr, hv⟩, boxE h3 (by omega) hg hr, h4.grown hg h4.size (fun r e => by rcases hr r e with h | ⟨h, _⟩ <;> omega), Nat.le_trans h5 hg.size, fun x hx => R_blocks (h6 x hx) (fun q cs t fr hq h => boxE h (by omega) hg hr)⟩)
    (fun c s X Y row ⟨h1, x, hx, he, h2, h3, h4⟩ hg hr => ⟨h1, x, hx, he, boxE h2 (by omega) hg hr, boxE h3 (by omega) hg hr, h4.grown hg h4.size (fun r e => by rcases hr r e with h | ⟨h, _⟩ <;> omega)⟩)
    ⟨b7, ⟨_, b8, fun x hx => by simp at hx⟩, b9, hB0, Nat.le_refl _, fun x hx => by simp at hx⟩
    (fun x a' W => Kd.R k26 26 W W0.heap.size (fun _ => True) x.v x.rows ∧ a' = { tmps := #[.slice A0 l0.length c0, .slice A1 l1.length c1, undef, undef, .slice none 0 0, .int .i64 0, .int .i64 0, .pointer (some ⟨w1.heap.size, 0, none⟩), .pointer (some ⟨w1.heap.size + 1, 0, none⟩), .pointer (some ⟨w1.heap.size + 1 + 1, 0, none⟩), x.v, .int .i64 x.e, .bool false, .slice A0 l0.length c0, .bool true, .bool false, .bool false, .slice A1 l1.length c1, .int .i64 l1.length, .bool false, .bool false, .slice A1 l1.length c1, .int .i64 l1.length, .bool false, .bool false, .slice A0 l0.length c0, .slice A0 l0.length c0, .slice A1 l1.length c1, .func (.func 32) #[] #[.pointer (some ⟨w1.heap.size + 1 + 1 + 1 + 1, 0, none⟩), .pointer (some ⟨w1.heap.size + 1 + 1 + 1, 0, none⟩)], x.v, .int .i64 x.e, undef, undef, undef, undef, undef, undef, undef, undef, undef, undef, undef], defers := [] })
    (fun x a' s X Y row ⟨h1, h2⟩ hg hr => ⟨R_blocks h1 (fun q cs t fr hq h => boxc_keep (K := 0) h hg (fun r e => ⟨Nat.zero_le _, (hr r e).2⟩)), h2⟩) ?assign ?body ?done ?stop
  case assign =>
    rintro l pre x W K hi hE hK
    gi_wp2
    exact hK _ _ (KeepsFrom.refl _ _) (KeepC.refl _ _ _) hi ⟨hE, rfl⟩
  case body =>
    rintro l pre ⟨v, rows, er⟩ a' W hl ⟨r, hr⟩ ⟨h1, ⟨v8, h2, hv⟩, h3, h4, h5, h6⟩ ⟨hE, rfl⟩ hlt
    obtain ⟨A2, c2, ev⟩ := Kd.R_slice hE
    dsimp only at ev
    subst ev
    have HE := Aside0.mk hE
    have H6 := Aside0.mk h6
    clear hE h6 hv
    have c1 := boxc_cell h1 0
    have c3 := boxc_cell h2 0
    have c4 := boxc_cell h3 0
    have z1 := boxc_frozen h1 0
    have z2 := boxc_frozen h2 0
    have z3 := boxc_frozen h3 0
    have hpl : (pre.length : Int) < 64 := by have := HN2.out; omega
    have HSZ := Aside0.mk hsz
    clear hsz
    by_cases he : er = 0
    · subst he
      gi_wp2_with fail
      have hsz := HSZ.out
      have k8 := blk_set h2 0 (.slice A2 rows.length c2)
      have k7 := blk_set (boxc_far h1 (a := ⟨w1.heap.size + 1, 0, none⟩) (by simp) (.slice A2 rows.length c2)) 0 (.int .i64 ((pre.length : Int) + 1))
      have k9 := boxc_far (boxc_far h3 (a := ⟨w1.heap.size + 1, 0, none⟩) (by simp) (.slice A2 rows.length c2)) (a := ⟨w1.heap.size, 0, none⟩) (by simp; omega) (.int .i64 ((pre.length : Int) + 1))
      refine ⟨((KeepsOthers.setCell _ _ _).trans (KeepsOthers.setCell _ _ _)).from _, (KeepC.set W (w1.heap.size + 1) 0 _ (by omega) (by omega)).trans (KeepC.set _ (w1.heap.size) 0 _ (by omega) (by omega)), ?_, ?_, ⟨_, by simpa using boxc_far k8 (a := ⟨w1.heap.size, 0, none⟩) (by simp) (.int .i64 ((pre.length : Int) + 1)), ?_⟩, k9, (h4.setCell (by simp; omega) _).setCell (by simp; omega) _, by simp; omega, ?_⟩
      · first | trivial | rfl
      · simpa using k7
      · intro x hx
        rw [List.getLast?_concat] at hx
        rw [← Option.some.inj hx]
      · intro x hx
        rw [List.getLast?_concat] at hx
        rw [← Option.some.inj hx]
        first | rw [← hsz] | skip
        exact R_blocks HE.out (fun q cs t fr hq h => boxc_far (boxc_far h (by simp; omega) _) (by simp; omega) _)
    · have hne : (er != 0) = true := bne_iff_ne.2 he
      gi_wp2_with fail
      have hsz := HSZ.out
      have k9 := blk_set h3 0 (.int .i64 er)
      exact ⟨(KeepsOthers.setCell _ _ _).from _, rfl, _, List.getLast?_concat .., he, by simpa using boxc_far h1 (a := ⟨w1.heap.size + 1 + 1, 0, none⟩) (by simp; omega) (.int .i64 er), by simpa using k9, h4.setCell (by simp; omega) _⟩
  case done =>
    rintro D xs W hD ⟨hS, hall⟩ ⟨h1, ⟨v8, h2, hv⟩, h3, h4, h5, h6⟩ hK
    have hne : cs ≠ [] := by
      cases l1 with
      | nil => exact absurd HN.out (by simp)
      | cons o os => exact runS_ne HCS.out
    obtain ⟨x, hx⟩ : ∃ x, xs.getLast? = some x := by
      cases hg : xs.getLast? with
      | none => rw [List.getLast?_eq_none_iff.1 hg] at hS; exact absurd hS.symm hne
      | some x => exact ⟨x, rfl⟩
    have hfin : finS cs = (x.rows, 0, 0) := by
      unfold finS
      rw [← hS, List.getLast?_map, hx]
      simp [hall x (List.mem_of_getLast? hx)]
    have hR := h6 x hx
    have hv2 := hv x hx
    obtain ⟨v, rows, er⟩ := x
    obtain ⟨A2, c2, ev⟩ := Kd.R_slice hR
    dsimp only at ev hv2
    subst ev
    subst hv2
    have HF := Aside0.mk hfin
    have HRR := Aside0.mk hR
    clear hfin hR h6 hv hx hall hS hne
    have c3 := boxc_cell h2 0
    have c4 := boxc_cell h3 0
    have HSZ := Aside0.mk hsz
    clear hsz
    gi_wp2_with fail
    have hsz := HSZ.out
    refine ⟨by simp, .inl ⟨_, _, rfl, run_takeDeferred hK, ?_⟩⟩
    refine ⟨.tuple #[.slice A2 rows.length c2, .int .i64 0, .int .i64 0], by simp [results, Try.results16, go_sem], _, by rw [HF.out], ?_, h4.trans (belowK_b (w := w) (Nat.le_refl _) W D _ _ (by omega) hK rfl rfl)⟩
    rw [HF.out]
    exact Kd.R_lower (R_blocks HRR.out (fun q cs t fr hq h => (KeepC.put (lo := 0) (hi := 0) W D _ _ hK rfl).same q cs t fr h (.inr (Nat.zero_le _)))) (by omega)
  case stop =>
    rintro D c pre W hD hpre ⟨rfl, x, hx, he, h1, h3, h4⟩ hK
    obtain ⟨p, rfl⟩ : ∃ p, pre = p ++ [x] := by
      rcases List.eq_nil_or_concat pre with h | ⟨p, y, h⟩
      · rw [h] at hx; simp at hx
      · rw [h, List.concat_eq_append, List.getLast?_concat] at hx
        exact ⟨p, by rw [h, List.concat_eq_append, Option.some.inj hx]⟩
    have hcs2 : cs = p.map stepOut ++ [stepOut x] := runS_err l1 l0 cs _ _ HCS.out (by rw [← List.map_singleton, ← List.map_append]; exact hpre) he
    have hfin : finS cs = ([], ((p.length : Nat) : Int), x.e) := by
      unfold finS
      rw [hcs2, List.getLast?_concat]
      simp [he]
    have HF := Aside0.mk hfin
    have hne : (x.e != 0) = true := bne_iff_ne.2 he
    simp only [List.length_append, List.length_singleton, Nat.add_sub_cancel] at h1
    clear hfin hcs2 hpre hx he
    have c3 := boxc_cell h1 0
    have c4 := boxc_cell h3 0
    have HSZ := Aside0.mk hsz
    clear hsz
    gi_wp2_with fail
    refine (wpIn_wide (n := 9)).2 ?_
    go_region
    gi_wp2_with fail
    have hsz := HSZ.out
    have hK2 : W.drew.heap[D]? = some (.deferred (some [])) := hK
    have hb2 : Below w.heap.size w W.drew := below_drew h4
    first | rw [Exit.noGoto_ret] | skip
    refine ⟨by simp, .inl ⟨_, _, rfl, run_takeDeferred hK2, ?_⟩⟩
    refine ⟨.tuple #[.slice none 0 0, .int .i64 p.length, .int .i64 x.e], by simp [results, Try.results16, go_sem], _, by rw [HF.out], ?_, hb2.trans (belowK_b (w := w) (Nat.le_refl _) W.drew D _ _ (by omega) hK2 rfl rfl)⟩
    rw [HF.out]
    exact Kd.R_nil _ _ _ _ _

theorem plain_Batch.calls (k : Nat) (A0 : Option Addr) (c0 : Nat) (l0 : List S26) (A1 : Option Addr) (c1 : Nat) (l1 : List S28) (r1 : List S26) (r2 r3 : Int) (w : World) (hr0 : Kd.C k26 w A0 l0.length l0) (hc0 : l0.length ≤ c0) (hr1 : Kd.C k28 w A1 l1.length l1) (hc1 : l1.length ≤ c1) (h : plain_Batch.f k l0 l1 = some (r1, r2, r3)) :
    Calls Try.prog 16 #[.slice A0 l0.length c0, .slice A1 l1.length c1] w fun e w' => ∃ v0_ : Value, e = .returned (.tuple #[v0_, .int .i64 r2, .int .i64 r3]) ∧ Kd.R k26 26 w' w.heap.size (fun _ => True) v0_ r1 ∧ Below w.heap.size w w' := by
  unfold plain_Batch.f at h
  obtain ⟨t, ht, h⟩ := Option.bind_eq_some_iff.1 h
  cases t with
  | false =>
    rw [if_neg Bool.false_ne_true] at h
    simp only [Option.some.injEq, Prod.mk.injEq] at h
    obtain ⟨rfl, rfl, rfl⟩ := h
    exact batch_no k A0 c0 l0 A1 c1 l1.length w hr0 hc0 ⟨ht⟩
  | true =>
    rw [if_pos rfl] at h
    by_cases hn : l1.length = 0 ∨ 64 < l1.length
    · rw [if_pos hn] at h
      simp only [Option.some.injEq, Prod.mk.injEq] at h
      obtain ⟨rfl, rfl, rfl⟩ := h
      rcases hn with hn | hn
      · exact batch_0 k A0 c0 l0 A1 c1 l1.length w hr0 hc0 ⟨ht⟩ hn
      · exact batch_big k A0 c0 l0 A1 c1 l1.length w hr0 hc0 ⟨ht⟩ hn
    · rw [if_neg hn] at h
      obtain ⟨cs, hcs, hf⟩ := Option.map_eq_some_iff.1 h
      have := batch_go k A0 c0 l0 A1 c1 l1 cs w hr0 hc0 hr1 hc1 ⟨ht⟩ (by omega) (by omega) hcs
      rw [hf] at this
      exact this

end Go.Proofs.Ytpgjbabbfnglfaa.P

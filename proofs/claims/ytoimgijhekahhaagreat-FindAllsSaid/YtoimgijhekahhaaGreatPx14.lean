-- Laid by a program of this session: the walk of functions of the translation, for this claim.
import Derived.Test.YtoimgijhekahhaaGreatPx0
import Derived.Test.YtoimgijhekahhaaGreatStep
import Derived.Test.YtoimgijhekahhaaGreatPx13
namespace Go.Proofs.YtoimgijhekahhaaGreat.P
open Go.RowKit Go.Proofs.YtoimgijhekahhaaGreatOwn Go.Proofs.YtoimgijhekahhaaGreatW.PrintWords Go.Proofs.YtoimgijhekahhaaGreatW.PrintLast Go.Proofs.YtoimgijhekahhaaGreatW.PrintMore
attribute [local go_sem] max2_int min2_int max_two min_two max_three min_three max_four min_four
set_option linter.unusedVariables false
set_option linter.unusedSimpArgs false
mutual
def sphragisref09_Near.j0 : Nat → List (S37) → Int → Int → Int → Bool → Option ((List (S37)) × Int)
 | 0, _, _, _, _, _ => none
 | k + 1, x0, x1, x2, x3, x23 => if x23 = true then (some (([] : List (S37)), 2)) else (if 0 ≤ (x0.length : Int) then (if ((x0.length : Int) : Int).toNat ≤ 281474976710656 then (sphragisref09_Near.l0 k x0 x1 x2 x3 ([] : List (S37)) (List.replicate ((x0.length : Int) : Int).toNat false)) else (none)) else (none))
def sphragisref09_Near.l0 : Nat → List (S37) → Int → Int → Int → List (S37) → List Bool → Option ((List (S37)) × Int)
 | 0, _, _, _, _, _, _ => none
 | k + 1, x0, x1, x2, x3, x10, x11 => if (x10.length : Int) < x3 then (sphragisref09_Near.j2 k x0 x1 x2 x3 x10 x11 (decide ((x10.length : Int) < (x0.length : Int)))) else (sphragisref09_Near.j2 k x0 x1 x2 x3 x10 x11 false)
def sphragisref09_Near.j2 : Nat → List (S37) → Int → Int → Int → List (S37) → List Bool → Bool → Option ((List (S37)) × Int)
 | 0, _, _, _, _, _, _, _ => none
 | k + 1, x0, x1, x2, x3, x10, x11, x37 => if x37 = true then (sphragisref09_Near.l1 k x0 x1 x2 x3 x10 x11 (-1) 0) else (some (x10, 0))
def sphragisref09_Near.l1 : Nat → List (S37) → Int → Int → Int → List (S37) → List Bool → Int → Int → Option ((List (S37)) × Int)
 | 0, _, _, _, _, _, _, _, _ => none
 | k + 1, x0, x1, x2, x3, x10, x11, x12, x13 => if x13 < (x0.length : Int) then (if 0 ≤ x13 then (if x13 < (x11.length : Int) then (if rdOf false x11 x13 = true then (sphragisref09_Near.l1 k x0 x1 x2 x3 x10 x11 x12 (wrap64 (x13 + 1))) else (if x12 < 0 then (sphragisref09_Near.l1 k x0 x1 x2 x3 x10 x11 x13 (wrap64 (x13 + 1))) else ((sphragisref08_Square.f x1 x2 ((rd_T37 x0 x13).f1) ((rd_T37 x0 x13).f2)).bind fun t230 => (if 0 ≤ x12 then (if x12 < (x0.length : Int) then ((sphragisref08_Square.f x1 x2 ((rd_T37 x0 x12).f1) ((rd_T37 x0 x12).f2)).bind fun t233 => (if t230 < t233 then (sphragisref09_Near.l1 k x0 x1 x2 x3 x10 x11 x13 (wrap64 (x13 + 1))) else (sphragisref09_Near.l1 k x0 x1 x2 x3 x10 x11 x12 (wrap64 (x13 + 1))))) else (none)) else (none))))) else (none)) else (none)) else (if 0 ≤ x12 then (if x12 < (x11.length : Int) then (if x12 < (x0.length : Int) then (if x10.length < 4398046511104 then (sphragisref09_Near.l0 k x0 x1 x2 x3 (x10 ++ [(⟨(rd_T37 x0 x12).f0, (rd_T37 x0 x12).f1, (rd_T37 x0 x12).f2, (rd_T37 x0 x12).f3⟩ : S37)]) (x11.set (x12 : Int).toNat true)) else (none)) else (none)) else (none)) else (none))
end
def sphragisref09_Near.f (k : Nat) (l0 : List (S37)) (a1 : Int) (a2 : Int) (a3 : Int) : Option ((List (S37)) × Int) := if a1 ≥ 2147483648 then (sphragisref09_Near.j0 k l0 a1 a2 a3 true) else (if a2 ≥ 2147483648 then (sphragisref09_Near.j0 k l0 a1 a2 a3 true) else (sphragisref09_Near.j0 k l0 a1 a2 a3 (decide (a3 < 0))))
theorem sphragisref09_Near.mono_l : ∀ k, (∀ y0 y1 y2 y3 y4, LeO (sphragisref09_Near.j0 k y0 y1 y2 y3 y4) (sphragisref09_Near.j0 (k + 1) y0 y1 y2 y3 y4)) ∧ (∀ y0 y1 y2 y3 y4 y5, LeO (sphragisref09_Near.l0 k y0 y1 y2 y3 y4 y5) (sphragisref09_Near.l0 (k + 1) y0 y1 y2 y3 y4 y5)) ∧ (∀ y0 y1 y2 y3 y4 y5 y6, LeO (sphragisref09_Near.j2 k y0 y1 y2 y3 y4 y5 y6) (sphragisref09_Near.j2 (k + 1) y0 y1 y2 y3 y4 y5 y6)) ∧ (∀ y0 y1 y2 y3 y4 y5 y6 y7, LeO (sphragisref09_Near.l1 k y0 y1 y2 y3 y4 y5 y6 y7) (sphragisref09_Near.l1 (k + 1) y0 y1 y2 y3 y4 y5 y6 y7))
 | 0 => ⟨fun _ _ _ _ _ r h => by simp [sphragisref09_Near.j0] at h, fun _ _ _ _ _ _ r h => by simp [sphragisref09_Near.l0] at h, fun _ _ _ _ _ _ _ r h => by simp [sphragisref09_Near.j2] at h, fun _ _ _ _ _ _ _ _ r h => by simp [sphragisref09_Near.l1] at h⟩
 | k + 1 => by
  obtain ⟨ih0, ih1, ih2, ih3⟩ := sphragisref09_Near.mono_l k
  refine ⟨?_, ?_, ?_, ?_⟩
  ·intro y0 y1 y2 y3 y4
   unfold sphragisref09_Near.j0
   repeat' first
   | (with_reducible exact ih0 _ _ _ _ _)
   | (with_reducible exact ih1 _ _ _ _ _ _)
   | (with_reducible exact ih2 _ _ _ _ _ _ _)
   | (with_reducible exact ih3 _ _ _ _ _ _ _ _)
   | (with_reducible exact LeO.refl _)
   | (with_reducible exact LeO.none _)
   | (with_reducible refine LeO.ite ?_ ?_)
   | (with_reducible refine LeO.bind ?_ (fun _ => ?_))
   | exact ih0 _ _ _ _ _
   | exact ih1 _ _ _ _ _ _
   | exact ih2 _ _ _ _ _ _ _
   | exact ih3 _ _ _ _ _ _ _ _
   | exact LeO.none _
   | refine LeO.ite ?_ ?_
   | refine LeO.bind ?_ (fun _ => ?_)
  ·intro y0 y1 y2 y3 y4 y5
   unfold sphragisref09_Near.l0
   repeat' first
   | (with_reducible exact ih0 _ _ _ _ _)
   | (with_reducible exact ih1 _ _ _ _ _ _)
   | (with_reducible exact ih2 _ _ _ _ _ _ _)
   | (with_reducible exact ih3 _ _ _ _ _ _ _ _)
   | (with_reducible exact LeO.refl _)
   | (with_reducible exact LeO.none _)
   | (with_reducible refine LeO.ite ?_ ?_)
   | (with_reducible refine LeO.bind ?_ (fun _ => ?_))
   | exact ih0 _ _ _ _ _
   | exact ih1 _ _ _ _ _ _
   | exact ih2 _ _ _ _ _ _ _
   | exact ih3 _ _ _ _ _ _ _ _
   | exact LeO.none _
   | refine LeO.ite ?_ ?_
   | refine LeO.bind ?_ (fun _ => ?_)
  ·intro y0 y1 y2 y3 y4 y5 y6
   unfold sphragisref09_Near.j2
   repeat' first
   | (with_reducible exact ih0 _ _ _ _ _)
   | (with_reducible exact ih1 _ _ _ _ _ _)
   | (with_reducible exact ih2 _ _ _ _ _ _ _)
   | (with_reducible exact ih3 _ _ _ _ _ _ _ _)
   | (with_reducible exact LeO.refl _)
   | (with_reducible exact LeO.none _)
   | (with_reducible refine LeO.ite ?_ ?_)
   | (with_reducible refine LeO.bind ?_ (fun _ => ?_))
   | exact ih0 _ _ _ _ _
   | exact ih1 _ _ _ _ _ _
   | exact ih2 _ _ _ _ _ _ _
   | exact ih3 _ _ _ _ _ _ _ _
   | exact LeO.none _
   | refine LeO.ite ?_ ?_
   | refine LeO.bind ?_ (fun _ => ?_)
  ·intro y0 y1 y2 y3 y4 y5 y6 y7
   unfold sphragisref09_Near.l1
   repeat' first
   | (with_reducible exact ih0 _ _ _ _ _)
   | (with_reducible exact ih1 _ _ _ _ _ _)
   | (with_reducible exact ih2 _ _ _ _ _ _ _)
   | (with_reducible exact ih3 _ _ _ _ _ _ _ _)
   | (with_reducible exact LeO.refl _)
   | (with_reducible exact LeO.none _)
   | (with_reducible refine LeO.ite ?_ ?_)
   | (with_reducible refine LeO.bind ?_ (fun _ => ?_))
   | exact ih0 _ _ _ _ _
   | exact ih1 _ _ _ _ _ _
   | exact ih2 _ _ _ _ _ _ _
   | exact ih3 _ _ _ _ _ _ _ _
   | exact LeO.none _
   | refine LeO.ite ?_ ?_
   | refine LeO.bind ?_ (fun _ => ?_)
theorem sphragisref09_Near.mono : ∀ a0 a1 a2 a3 k, LeO (sphragisref09_Near.f k a0 a1 a2 a3) (sphragisref09_Near.f (k + 1) a0 a1 a2 a3) := by
 intro a0 a1 a2 a3 k
 obtain ⟨ih0, ih1, ih2, ih3⟩ := sphragisref09_Near.mono_l k
 unfold sphragisref09_Near.f
 repeat' first
   | (with_reducible exact ih0 _ _ _ _ _)
   | (with_reducible exact ih1 _ _ _ _ _ _)
   | (with_reducible exact ih2 _ _ _ _ _ _ _)
   | (with_reducible exact ih3 _ _ _ _ _ _ _ _)
   | (with_reducible exact LeO.refl _)
   | (with_reducible exact LeO.none _)
   | (with_reducible refine LeO.ite ?_ ?_)
   | (with_reducible refine LeO.bind ?_ (fun _ => ?_))
   | exact ih0 _ _ _ _ _
   | exact ih1 _ _ _ _ _ _
   | exact ih2 _ _ _ _ _ _ _
   | exact ih3 _ _ _ _ _ _ _ _
   | exact LeO.none _
   | refine LeO.ite ?_ ?_
   | refine LeO.bind ?_ (fun _ => ?_)
def sphragisref09_Near.T11 : Bool × List (List Nat × List Nat) := (true, [([], []), ([0], [0]), ([1], [1]), ([2], [2]), ([2], [2]), ([2], [2]), ([2], [2]), ([5, 6, 2], [2, 5, 6]), ([7, 2], [2, 7]), ([8, 2], [2, 8]), ([2], [2]), ([2], [2]), ([10, 11, 2], [2, 10, 11]), ([12, 2], [2, 12]), ([13, 2], [2, 13]), ([3, 4, 9, 14, 2, 2], [2, 3, 4, 9, 14]), ([2], [2]), ([2], [2]), ([2], [2]), ([2], [2]), ([18, 19, 2], [2, 18, 19]), ([20, 2], [2, 20]), ([21, 2], [2, 21]), ([2], [2]), ([2], [2]), ([23, 24, 2], [2, 23, 24]), ([25, 2], [2, 25]), ([26, 2], [2, 26]), ([16, 17, 22, 27, 15, 2], [2, 16, 17, 22, 27]), ([15, 28, 2], [2, 15, 28]), ([2, 29], [2, 29])])
def sphragisref09_Near.B11 : List Nat := [0, 1, 3, 7, 7, 7, 7, 103, 231, 487, 7, 7, 3079, 7175, 15367, 32767, 7, 7, 7, 7, 786439, 1835015, 3932167, 7, 7, 25165831, 58720263, 125829127, 268435455, 536870911, 1073741823]
theorem sphragisref09_Near.tab11 : rtab .any (opsOf Tryz.f28 11) = sphragisref09_Near.T11 := by kernel_rfl
theorem sphragisref09_Near.bits11 : waitsOk sphragisref09_Near.T11.2 sphragisref09_Near.B11 = true := by kernel_rfl
set_option maxHeartbeats 8000000 in
set_option maxRecDepth 100000 in
theorem sphragisref09_Near.calls (k : Nat) (A0 : Option Addr) (c0 : Nat) (l0 : List (S37)) (a1 : Int) (a2 : Int) (a3 : Int) (r1 : List (S37)) (r2 : Int) (w : World) (hr0 : Kd.C k37 w A0 l0.length l0) (hc0 : l0.length ≤ c0) (h : sphragisref09_Near.f k l0 a1 a2 a3 = some (r1, r2)) :
  Calls Tryz.prog 28 #[.slice A0 l0.length c0, .int .u32 a1, .int .u32 a2, .int .i64 a3] w fun e w' => ∃ v0_ : Value, e = .returned (.tuple #[v0_, .int .i64 r2]) ∧ Kd.R k37 37 w' w.heap.size (fun _ => True) v0_ r1 ∧ Below w.heap.size w w' := by
 have hu37 := Tryz.underlying37
 have HR0 := Aside0.mk hr0
 have HC0 := Aside0.mk hc0
 clear hr0 hc0
 have HB := Aside0.mk (Below.refl w.heap.size w)
 have H : (if a1 ≥ 2147483648 then (sphragisref09_Near.j0 k l0 a1 a2 a3 true) else (if a2 ≥ 2147483648 then (sphragisref09_Near.j0 k l0 a1 a2 a3 true) else (sphragisref09_Near.j0 k l0 a1 a2 a3 (decide (a3 < 0))))) = some (r1, r2) := h
 clear h
 have HC5 := Aside0.mk H
 clear H
 go_enter Tryz.func28, Tryz.ntmps28
 go_upto_region 1 with (fail)
 go_cut [23] (fun v23 wc => ∃ (kq : Nat) (x23_4 : Bool), v23 = .bool x23_4 ∧ Aside0 (sphragisref09_Near.j0 kq l0 a1 a2 a3 x23_4 = some (r1, r2)) ∧ Aside0 (kq ≤ k) ∧ Aside0 (Below w.heap.size w wc))
 case first =>
  have H := HC5.out
  clear HC5
  by_cases c6 : a1 ≥ 2147483648
  ·rw [if_pos c6] at H
   have c6b0 : decide (2147483648 ≤ a1) = true := decide_eq_true c6
   clear c6
   (first | rw [c6b0] | (simp only [i64_w, i32_w]; rw [c6b0]) | skip)
   have H' := Aside0.mk H
   clear H
   go_wp2
   go_meet
   case rel => exact ⟨_, (true), (by first | rfl | (simp; done) | (simp [*]; done)), H', ⟨by first | omega | exact Nat.le_refl _⟩, ⟨by repeat (first | (with_reducible first | exact HB.out | apply below_alloc | apply pw_below_drewN | apply below_drew1) | exact HB.out)⟩⟩
  ·rw [if_neg c6] at H
   have c6b0 : decide (2147483648 ≤ a1) = false := decide_eq_false c6
   clear c6
   (first | rw [c6b0] | (simp only [i64_w, i32_w]; rw [c6b0]) | skip)
   by_cases c7 : a2 ≥ 2147483648
   ·rw [if_pos c7] at H
    have c7b0 : decide (2147483648 ≤ a2) = true := decide_eq_true c7
    clear c7
    have H' := Aside0.mk H
    clear H
    go_wp2
    go_meet
    case rel => exact ⟨_, (true), (by first | rfl | (simp; done) | (simp [*]; done)), H', ⟨by first | omega | exact Nat.le_refl _⟩, ⟨by repeat (first | (with_reducible first | exact HB.out | apply below_alloc | apply pw_below_drewN | apply below_drew1) | exact HB.out)⟩⟩
   ·rw [if_neg c7] at H
    have c7b0 : decide (2147483648 ≤ a2) = false := decide_eq_false c7
    clear c7
    have H' := Aside0.mk H
    clear H
    go_wp2
    go_meet
    case rel => exact ⟨_, (decide (a3 < 0)), (by first | rfl | (simp; done) | (simp [*]; done)), H', ⟨by first | omega | exact Nat.le_refl _⟩, ⟨by repeat (first | (with_reducible first | exact HB.out | apply below_alloc | apply pw_below_drewN | apply below_drew1) | exact HB.out)⟩⟩
 case rest =>
  clear HC5
  try clear c2
  try clear p2
  try clear c6
  try clear c6b0
  try clear c7
  try clear c7b0
  obtain ⟨kq, x23_4, rfl, HA, HJ4, HB⟩ := hcut
  cases kq with
  | zero => exact absurd HA.out (by simp [sphragisref09_Near.j0])
  | succ kj4 =>
   have H := HA.out
   clear HA
   simp only [sphragisref09_Near.j0] at H
   by_cases c8 : x23_4 = true
   ·subst c8
    have H1 : (some (([] : List (S37)), 2)) = some (r1, r2) := by rw [if_pos rfl] at H; exact H
    clear H
    have H := H1
    clear H1
    simp only [Option.some.injEq, Prod.mk.injEq] at H
    obtain ⟨rfl, rfl⟩ := H
    go_wp2
    go_ret2
    exact ⟨_, by first | rfl | (simp [errW_none, errW_some] <;> rfl) | (simp [*, errW_none, errW_some] <;> rfl), by first | exact Kd.R_nil _ _ _ _ _ | exact Kd.N_nil _ _ _ _ _ | exact Kd.V_nil _ _ _ _ _ | exact Kd.Q_nil _ _ _ _ _ | exact Kd.S_nil _ _ _ _ _, by repeat (first | (with_reducible first | exact HB.out | apply below_alloc | apply pw_below_drewN | apply below_drew1) | exact HB.out)⟩
   ·replace c8 := Bool.eq_false_iff.mpr c8
    subst c8
    have H1 : (if 0 ≤ (l0.length : Int) then (if ((l0.length : Int) : Int).toNat ≤ 281474976710656 then (sphragisref09_Near.l0 kj4 l0 a1 a2 a3 ([] : List (S37)) (List.replicate ((l0.length : Int) : Int).toNat false)) else (none)) else (none)) = some (r1, r2) := by rw [if_neg (show ¬ (false = true) by decide)] at H; exact H
    clear H
    have H := H1
    clear H1
    by_cases c9 : 0 ≤ (l0.length : Int)
    ·rw [if_pos c9] at H
     have c9b0 := eq_true c9
     have c9b1 : decide (0 ≤ (l0.length : Int)) = true := decide_eq_true c9
     clear c9
     by_cases c10 : ((l0.length : Int) : Int).toNat ≤ 281474976710656
     ·rw [if_pos c10] at H
      have c10b0 := eq_true c10
      have c10b1 : decide (((l0.length : Int) : Int).toNat ≤ 281474976710656) = true := decide_eq_true c10
      clear c10
      obtain ⟨y219, hy219⟩ : ∃ y_ : List Bool, y_ = (List.replicate ((l0.length : Int) : Int).toNat false) := ⟨_, rfl⟩
      replace H : (sphragisref09_Near.l0 kj4 l0 a1 a2 a3 ([] : List (S37)) y219) = some (r1, r2) := by first | (rw [hy219]; with_reducible exact H) | (have H2_ := (Option.bind_some _ _).symm.trans H; rw [hy219]; with_reducible exact H2_) | (have H2_ := (Option.bind_some _ _).symm.trans H; with_reducible exact H2_) | with_reducible exact H | (rw [hy219]; exact H) | exact H
      have Ny219 := Aside0.mk hy219
      clear hy219
      have H' := Aside0.mk H
      clear H
      go_wp2_with (first | ((with_reducible refine gate_dst (N := 26) rfl ?_); (try (refine gate_guard (by rfl) ?_; dsimp only)); refine Kd.R_make Kd.bool _ 4 rfl (N := 26) rfl 76 _ _ rfl (l0.length : Int) rfl rfl Tryz.underlying76 (.bool false) 1 info4 rfl (by decide) (by omega) false (ok := fun _ => True) (okp := fun _ => True) rfl (fun _ hk => hk) trivial (of_decide_eq_true (by first | (with_reducible assumption) | assumption)) (Nat.le_trans (Nat.mul_le_mul_right _ (of_decide_eq_true (by first | (with_reducible assumption) | assumption) : (l0.length : Int).toNat ≤ 281474976710656)) (by omega)) (Below.refl _ _) (Nat.le_refl _) ?_; intro v220 w11 ho12 hb hg_ hnew_; clear hg_ hnew_; (first | rw [← Ny219.out] at ho12 | (simp only [Int.reduceToNat] at ho12; rw [← Ny219.out] at ho12)); have n0_ := Aside0.mk (Kd.R_lower ho12 (below_size (by repeat (first | (with_reducible first | exact HB.out | apply below_alloc | apply pw_below_drewN | apply below_drew1) | exact HB.out)))); have n1_ := Aside0.mk (below_step (by repeat (first | (with_reducible first | exact HB.out | apply below_alloc | apply pw_below_drewN | apply below_drew1) | exact HB.out)) hb); clear HB; have HO221 := n0_; have HB := n1_; clear n0_ n1_; clear hb ho12))
      go_loopg [10] kj4 (fun kq v10 w' => ∃ (x10_2 : List (S37)) (x11_2 : List Bool), Aside0 (sphragisref09_Near.l0 kq l0 a1 a2 a3 x10_2 x11_2 = some (r1, r2)) ∧ Aside0 (kq ≤ kj4) ∧ Aside0 (Kd.R k37 37 w' w.heap.size (fun _ => True) v10 x10_2) ∧ Aside0 (Kd.R Kd.bool 4 w' w.heap.size (fun _ => True) v220 x11_2) ∧ Aside0 (Below w.heap.size w w'))
      case atStart => exact ⟨(([] : List (S37))), (y219), H', ⟨Nat.le_refl _⟩, ⟨by first | exact Kd.R_nil _ _ _ _ _ | exact Kd.N_nil _ _ _ _ _ | exact Kd.V_nil _ _ _ _ _ | exact Kd.Q_nil _ _ _ _ _ | exact Kd.S_nil _ _ _ _ _⟩, ⟨by (with_reducible repeat (first | apply Kd.R_alloc | apply Kd.R_drewN | apply Kd.R_drew)); exact HO221.out⟩, ⟨by repeat (first | (with_reducible first | exact HB.out | apply below_alloc | apply pw_below_drewN | apply below_drew1) | exact HB.out)⟩⟩
      case round =>
       clear H'
       try clear c1
       try clear c2
       try clear p2
       try clear c6
       try clear c6b0
       try clear c7
       try clear c7b0
       try clear c8
       try clear c9
       try clear c9b0
       try clear c9b1
       try clear c10
       try clear c10b0
       try clear c10b1
       try clear p2
       obtain ⟨x10_2, x11_2, HA, HK2, HO_10, HO_11, HB⟩ := hrel
       cases gk with
       | zero => exact absurd HA.out (by simp [sphragisref09_Near.l0])
       | succ k2 =>
        have H := HA.out
        clear HA
        simp only [sphragisref09_Near.l0] at H
        have HC13 := Aside0.mk H
        clear H
        go_upto_region 5 with (fail)
        go_cut [37] (fun v37 wc => ∃ (kq : Nat) (x37_12 : Bool), v37 = .bool x37_12 ∧ Aside0 (sphragisref09_Near.j2 kq l0 a1 a2 a3 x10_2 x11_2 x37_12 = some (r1, r2)) ∧ Aside0 (kq ≤ k2) ∧ Aside0 (Kd.R k37 37 wc w.heap.size (fun _ => True) u10 x10_2) ∧ Aside0 (Kd.R Kd.bool 4 wc w.heap.size (fun _ => True) v220 x11_2) ∧ Aside0 (Below w.heap.size w wc))
        case first =>
         have H := HC13.out
         clear HC13
         by_cases c14 : (x10_2.length : Int) < a3
         ·rw [if_pos c14] at H
          have c14b0 : decide ((x10_2.length : Int) < a3) = true := decide_eq_true c14
          clear c14
          (first | rw [c14b0] | (simp only [i64_w, i32_w]; rw [c14b0]) | skip)
          have H' := Aside0.mk H
          clear H
          obtain ⟨Ao15, co15, eo15⟩ := Kd.R_slice HO_10.out
          subst eo15
          go_wp2
          go_meet
          case rel => exact ⟨_, (decide ((x10_2.length : Int) < (l0.length : Int))), (by first | rfl | (simp; done) | (simp [*]; done)), H', ⟨by have := HJ4.out; have := HK2.out; first | omega | exact Nat.le_refl _⟩, ⟨by (with_reducible repeat (first | apply Kd.R_alloc | apply Kd.R_drewN | apply Kd.R_drew)); exact HO_10.out⟩, ⟨by (with_reducible repeat (first | apply Kd.R_alloc | apply Kd.R_drewN | apply Kd.R_drew)); exact HO_11.out⟩, ⟨by repeat (first | (with_reducible first | exact HB.out | apply below_alloc | apply pw_below_drewN | apply below_drew1) | exact HB.out)⟩⟩
         ·rw [if_neg c14] at H
          have c14b0 : decide ((x10_2.length : Int) < a3) = false := decide_eq_false c14
          clear c14
          (first | rw [c14b0] | (simp only [i64_w, i32_w]; rw [c14b0]) | skip)
          have H' := Aside0.mk H
          clear H
          obtain ⟨Ao16, co16, eo16⟩ := Kd.R_slice HO_10.out
          subst eo16
          go_wp2
          go_meet
          case rel => exact ⟨_, (false), (by first | rfl | (simp; done) | (simp [*]; done)), H', ⟨by have := HJ4.out; have := HK2.out; first | omega | exact Nat.le_refl _⟩, ⟨by (with_reducible repeat (first | apply Kd.R_alloc | apply Kd.R_drewN | apply Kd.R_drew)); exact HO_10.out⟩, ⟨by (with_reducible repeat (first | apply Kd.R_alloc | apply Kd.R_drewN | apply Kd.R_drew)); exact HO_11.out⟩, ⟨by repeat (first | (with_reducible first | exact HB.out | apply below_alloc | apply pw_below_drewN | apply below_drew1) | exact HB.out)⟩⟩
        case rest =>
         clear HC13
         try clear c1
         try clear c2
         try clear p2
         try clear c6
         try clear c6b0
         try clear c7
         try clear c7b0
         try clear c8
         try clear c9
         try clear c9b0
         try clear c9b1
         try clear c10
         try clear c10b0
         try clear c10b1
         try clear c14
         try clear c14b0
         try clear p2
         obtain ⟨kq, x37_12, rfl, HA, HJ12, HO_10, HO_11, HB⟩ := hcut
         cases kq with
         | zero => exact absurd HA.out (by simp [sphragisref09_Near.j2])
         | succ kj12 =>
          have H := HA.out
          clear HA
          simp only [sphragisref09_Near.j2] at H
          by_cases c17 : x37_12 = true
          ·subst c17
           have H1 : (sphragisref09_Near.l1 kj12 l0 a1 a2 a3 x10_2 x11_2 (-1) 0) = some (r1, r2) := by rw [if_pos rfl] at H; exact H
           clear H
           have H := H1
           clear H1
           have H' := Aside0.mk H
           clear H
           go_wp2
           go_loopg [12, 13] kj12 (fun kq v12 v13 w' => ∃ (x12_4 : Int) (x13_4 : Int), v12 = .int .i64 x12_4 ∧ v13 = .int .i64 x13_4 ∧ Aside0 (sphragisref09_Near.l1 kq l0 a1 a2 a3 x10_2 x11_2 x12_4 x13_4 = some (r1, r2)) ∧ Aside0 (kq ≤ kj12) ∧ Aside0 (Kd.R k37 37 w' w.heap.size (fun _ => True) u10 x10_2) ∧ Aside0 (Kd.R Kd.bool 4 w' w.heap.size (fun _ => True) v220 x11_2) ∧ Aside0 (Below w.heap.size w w'))
           case atStart => exact ⟨((-1)), (0), (by first | rfl | (simp; done) | (simp [*]; done)), (by first | rfl | (simp; done) | (simp [*]; done)), H', ⟨Nat.le_refl _⟩, ⟨by (with_reducible repeat (first | apply Kd.R_alloc | apply Kd.R_drewN | apply Kd.R_drew)); exact HO_10.out⟩, ⟨by (with_reducible repeat (first | apply Kd.R_alloc | apply Kd.R_drewN | apply Kd.R_drew)); exact HO_11.out⟩, ⟨by repeat (first | (with_reducible first | exact HB.out | apply below_alloc | apply pw_below_drewN | apply below_drew1) | exact HB.out)⟩⟩
           case round =>
            clear H'
            try clear c1
            try clear c2
            try clear p2
            try clear c6
            try clear c6b0
            try clear c7
            try clear c7b0
            try clear c8
            try clear c9
            try clear c9b0
            try clear c9b1
            try clear c10
            try clear c10b0
            try clear c10b1
            try clear c14
            try clear c14b0
            try clear c17
            try clear p2
            obtain ⟨x12_4, x13_4, rfl, rfl, HA, HK4, HO_10, HO_11, HB⟩ := hrel
            cases gk with
            | zero => exact absurd HA.out (by simp [sphragisref09_Near.l1])
            | succ k4 =>
             have H := HA.out
             clear HA
             simp only [sphragisref09_Near.l1] at H
             by_cases c18 : x13_4 < (l0.length : Int)
             ·rw [if_pos c18] at H
              have c18b0 : decide (x13_4 < (l0.length : Int)) = true := decide_eq_true c18
              clear c18
              by_cases c19 : 0 ≤ x13_4
              ·rw [if_pos c19] at H
               have c19b0 : decide (0 ≤ x13_4) = true := decide_eq_true c19
               clear c19
               by_cases c20 : x13_4 < (x11_2.length : Int)
               ·rw [if_pos c20] at H
                have c20b0 : decide (x13_4 < (x11_2.length : Int)) = true := decide_eq_true c20
                clear c20
                obtain ⟨bq21, hbq21⟩ : ∃ b_ : Bool, b_ = (rdOf false x11_2 x13_4) := ⟨_, rfl⟩
                replace H : (if bq21 = true then (sphragisref09_Near.l1 k4 l0 a1 a2 a3 x10_2 x11_2 x12_4 (wrap64 (x13_4 + 1))) else (if x12_4 < 0 then (sphragisref09_Near.l1 k4 l0 a1 a2 a3 x10_2 x11_2 x13_4 (wrap64 (x13_4 + 1))) else ((sphragisref08_Square.f a1 a2 ((rd_T37 l0 x13_4).f1) ((rd_T37 l0 x13_4).f2)).bind fun t230 => (if 0 ≤ x12_4 then (if x12_4 < (l0.length : Int) then ((sphragisref08_Square.f a1 a2 ((rd_T37 l0 x12_4).f1) ((rd_T37 l0 x12_4).f2)).bind fun t233 => (if t230 < t233 then (sphragisref09_Near.l1 k4 l0 a1 a2 a3 x10_2 x11_2 x13_4 (wrap64 (x13_4 + 1))) else (sphragisref09_Near.l1 k4 l0 a1 a2 a3 x10_2 x11_2 x12_4 (wrap64 (x13_4 + 1))))) else (none)) else (none))))) = some (r1, r2) := by rw [← hbq21] at H; exact H
                have Nbq21 := Aside0.mk hbq21
                clear hbq21
                by_cases c22 : bq21 = true
                ·subst c22
                 have H1 : (sphragisref09_Near.l1 k4 l0 a1 a2 a3 x10_2 x11_2 x12_4 (wrap64 (x13_4 + 1))) = some (r1, r2) := by rw [if_pos rfl] at H; exact H
                 clear H
                 have H := H1
                 clear H1
                 have H' := Aside0.mk H
                 clear H
                 obtain ⟨Ao23, co23, eo23⟩ := Kd.R_slice HO_11.out
                 subst eo23
                 have p227 : 0 ≤ (x13_4 : Int) := of_decide_eq_true (by first | (with_reducible assumption) | assumption)
                 have q227 : x13_4 < (x11_2.length : Int) := of_decide_eq_true (by first | (with_reducible assumption) | assumption)
                 obtain ⟨ad227, e227, hx227_0⟩ := Kd.at_bool (Kd.R_reads' HO_11.out).2.2 x13_4 p227 q227
                 (try rw [← Nbq21.out] at hx227_0)
                 cases e227
                 replace p227 := eq_true p227
                 replace q227 := eq_true q227
                 go_wp2
                 go_roundg k4
                 case measure => have := HJ4.out; have := HK2.out; have := HJ12.out; have := HK4.out; omega
                 case rel => exact ⟨(x12_4), (wrap64 (x13_4 + 1)), (by first | rfl | (simp; done) | (simp [*]; done)), (by first | rfl | (simp; done) | (simp [*]; done)), H', ⟨by have := HJ4.out; have := HK2.out; have := HJ12.out; have := HK4.out; omega⟩, ⟨by (with_reducible repeat (first | apply Kd.R_alloc | apply Kd.R_drewN | apply Kd.R_drew)); exact HO_10.out⟩, ⟨by (with_reducible repeat (first | apply Kd.R_alloc | apply Kd.R_drewN | apply Kd.R_drew)); exact HO_11.out⟩, ⟨by repeat (first | (with_reducible first | exact HB.out | apply below_alloc | apply pw_below_drewN | apply below_drew1) | exact HB.out)⟩⟩
                ·replace c22 := Bool.eq_false_iff.mpr c22
                 subst c22
                 have H1 : (if x12_4 < 0 then (sphragisref09_Near.l1 k4 l0 a1 a2 a3 x10_2 x11_2 x13_4 (wrap64 (x13_4 + 1))) else ((sphragisref08_Square.f a1 a2 ((rd_T37 l0 x13_4).f1) ((rd_T37 l0 x13_4).f2)).bind fun t230 => (if 0 ≤ x12_4 then (if x12_4 < (l0.length : Int) then ((sphragisref08_Square.f a1 a2 ((rd_T37 l0 x12_4).f1) ((rd_T37 l0 x12_4).f2)).bind fun t233 => (if t230 < t233 then (sphragisref09_Near.l1 k4 l0 a1 a2 a3 x10_2 x11_2 x13_4 (wrap64 (x13_4 + 1))) else (sphragisref09_Near.l1 k4 l0 a1 a2 a3 x10_2 x11_2 x12_4 (wrap64 (x13_4 + 1))))) else (none)) else (none)))) = some (r1, r2) := by rw [if_neg (show ¬ (false = true) by decide)] at H; exact H
                 clear H
                 have H := H1
                 clear H1
                 by_cases c24 : x12_4 < 0
                 ·rw [if_pos c24] at H
                  have c24b0 : decide (x12_4 < 0) = true := decide_eq_true c24
                  clear c24
                  have H' := Aside0.mk H
                  clear H
                  obtain ⟨Ao25, co25, eo25⟩ := Kd.R_slice HO_11.out
                  subst eo25
                  have p227 : 0 ≤ (x13_4 : Int) := of_decide_eq_true (by first | (with_reducible assumption) | assumption)
                  have q227 : x13_4 < (x11_2.length : Int) := of_decide_eq_true (by first | (with_reducible assumption) | assumption)
                  obtain ⟨ad227, e227, hx227_0⟩ := Kd.at_bool (Kd.R_reads' HO_11.out).2.2 x13_4 p227 q227
                  (try rw [← Nbq21.out] at hx227_0)
                  cases e227
                  replace p227 := eq_true p227
                  replace q227 := eq_true q227
                  try go_wp2
                  have n0_ := Aside0.mk (Kd.R_drew HO_10.out)
                  have n1_ := Aside0.mk (Kd.R_drew HO_11.out)
                  have n2_ := Aside0.mk (below_drew1 HB.out)
                  clear HO_10
                  clear HO_11
                  clear HB
                  have HO_10 := n0_
                  have HO_11 := n1_
                  have HB := n2_
                  clear n0_ n1_ n2_
                  refine start_ (n := 31) (S := fun w' => True) (ds := []) #[false, false, false, false, false, false, false, false, false, false, false, false, false, false, false, false, false, false, false, false, false, false, false, false, false, false, false, false, false, false, false] (by kernel_rfl) rfl rfl trivial (fun hHeld => ?_); refine with_tabW sphragisref09_Near.tab11 sphragisref09_Near.bits11 (fun HT_ HW_ => ?_)
                  generalize wr.drew = w26 at HO_10 HO_11 HB hHeld ⊢
                  refine pA 0 HT_ ?_
                  refine pA 1 HT_ ?_
                  refine pA 2 HT_ ?_
                  refine uA 3 HT_ ?_
                  refine uA 4 HT_ ?_
                  refine uA 5 HT_ ?_
                  refine uA 6 HT_ ?_
                  refine uA 7 HT_ ?_
                  refine uA 8 HT_ ?_
                  refine uA 9 HT_ ?_
                  refine uA 10 HT_ ?_
                  refine uA 11 HT_ ?_
                  refine uA 12 HT_ ?_
                  refine uA 13 HT_ ?_
                  refine uA 14 HT_ ?_
                  refine uA 15 HT_ ?_
                  refine uA 16 HT_ ?_
                  refine uA 17 HT_ ?_
                  refine uA 18 HT_ ?_
                  refine uA 19 HT_ ?_
                  refine uA 20 HT_ ?_
                  refine uA 21 HT_ ?_
                  refine uA 22 HT_ ?_
                  refine uA 23 HT_ ?_
                  refine uA 24 HT_ ?_
                  refine uA 25 HT_ ?_
                  refine uA 26 HT_ ?_
                  refine uA 27 HT_ ?_
                  refine uA 28 HT_ ?_
                  refine uA 29 HT_ ?_
                  refine pA 30 HT_ ?_
                  refine done_ (done_of HT_.out (by kernel_rfl)) ?_
                  try go_wp2
                  go_roundg k4
                  case measure => have := HJ4.out; have := HK2.out; have := HJ12.out; have := HK4.out; omega
                  case rel => exact ⟨(x13_4), (wrap64 (x13_4 + 1)), (by first | rfl | (simp; done) | (simp [*]; done)), (by first | rfl | (simp; done) | (simp [*]; done)), H', ⟨by have := HJ4.out; have := HK2.out; have := HJ12.out; have := HK4.out; omega⟩, ⟨by (with_reducible repeat (first | apply Kd.R_alloc | apply Kd.R_drewN | apply Kd.R_drew)); exact HO_10.out⟩, ⟨by (with_reducible repeat (first | apply Kd.R_alloc | apply Kd.R_drewN | apply Kd.R_drew)); exact HO_11.out⟩, ⟨by repeat (first | (with_reducible first | exact HB.out | apply below_alloc | apply pw_below_drewN | apply below_drew1) | exact HB.out)⟩⟩
                 ·rw [if_neg c24] at H
                  have c24b0 : decide (x12_4 < 0) = false := decide_eq_false c24
                  clear c24
                  replace H := Option.bind_eq_some_iff.mp H
                  obtain ⟨t230, A270, H⟩ := H
                  replace H : (if 0 ≤ x12_4 then (if x12_4 < (l0.length : Int) then ((sphragisref08_Square.f a1 a2 ((rd_T37 l0 x12_4).f1) ((rd_T37 l0 x12_4).f2)).bind fun t233 => (if t230 < t233 then (sphragisref09_Near.l1 k4 l0 a1 a2 a3 x10_2 x11_2 x13_4 (wrap64 (x13_4 + 1))) else (sphragisref09_Near.l1 k4 l0 a1 a2 a3 x10_2 x11_2 x12_4 (wrap64 (x13_4 + 1))))) else (none)) else (none)) = some (r1, r2) := H
                  have A27 := Aside0.mk A270
                  clear A270
                  by_cases c28 : 0 ≤ x12_4
                  ·rw [if_pos c28] at H
                   have c28b0 : decide (0 ≤ x12_4) = true := decide_eq_true c28
                   clear c28
                   by_cases c29 : x12_4 < (l0.length : Int)
                   ·rw [if_pos c29] at H
                    have c29b0 : decide (x12_4 < (l0.length : Int)) = true := decide_eq_true c29
                    clear c29
                    replace H := Option.bind_eq_some_iff.mp H
                    obtain ⟨t233, A300, H⟩ := H
                    replace H : (if t230 < t233 then (sphragisref09_Near.l1 k4 l0 a1 a2 a3 x10_2 x11_2 x13_4 (wrap64 (x13_4 + 1))) else (sphragisref09_Near.l1 k4 l0 a1 a2 a3 x10_2 x11_2 x12_4 (wrap64 (x13_4 + 1)))) = some (r1, r2) := H
                    have A30 := Aside0.mk A300
                    clear A300
                    by_cases c31 : t230 < t233
                    ·rw [if_pos c31] at H
                     have c31b0 : decide (t230 < t233) = true := decide_eq_true c31
                     clear c31
                     have H' := Aside0.mk H
                     clear H
                     obtain ⟨Ao32, co32, eo32⟩ := Kd.R_slice HO_11.out
                     subst eo32
                     have p227 : 0 ≤ (x13_4 : Int) := of_decide_eq_true (by first | (with_reducible assumption) | assumption)
                     have q227 : x13_4 < (x11_2.length : Int) := of_decide_eq_true (by first | (with_reducible assumption) | assumption)
                     obtain ⟨ad227, e227, hx227_0⟩ := Kd.at_bool (Kd.R_reads' HO_11.out).2.2 x13_4 p227 q227
                     (try rw [← Nbq21.out] at hx227_0)
                     cases e227
                     replace p227 := eq_true p227
                     replace q227 := eq_true q227
                     try go_wp2
                     have n0_ := Aside0.mk (Kd.R_drew HO_10.out)
                     have n1_ := Aside0.mk (Kd.R_drew HO_11.out)
                     have n2_ := Aside0.mk (below_drew1 HB.out)
                     clear HO_10
                     clear HO_11
                     clear HB
                     have HO_10 := n0_
                     have HO_11 := n1_
                     have HB := n2_
                     clear n0_ n1_ n2_
                     have p228 : 0 ≤ (x13_4 : Int) := of_decide_eq_true (by first | (with_reducible assumption) | assumption)
                     have q228 : x13_4 < (l0.length : Int) := of_decide_eq_true (by first | (with_reducible assumption) | assumption)
                     obtain ⟨ad228, e228, hx228_0, hx228_1, hx228_2, hx228_3⟩ := at_T37 HR0.out x13_4 p228 q228
                     have hw228_3 := hx228_3
                     have hw228_2 := hx228_2
                     have hw228_1 := hx228_1
                     have hw228_0 := hx228_0
                     cases e228
                     replace hx228_0 := (HB.out.cell (World.block_lt_of_cell? w _ hx228_0)).trans hx228_0
                     replace hx228_1 := (HB.out.cell (World.block_lt_of_cell? w _ hx228_1)).trans hx228_1
                     replace hx228_2 := (HB.out.cell (World.block_lt_of_cell? w _ hx228_2)).trans hx228_2
                     replace hx228_3 := (HB.out.cell (World.block_lt_of_cell? w _ hx228_3)).trans hx228_3
                     replace p228 := eq_true p228
                     replace q228 := eq_true q228
                     have p229 : 0 ≤ (x13_4 : Int) := of_decide_eq_true (by first | (with_reducible assumption) | assumption)
                     have q229 : x13_4 < (l0.length : Int) := of_decide_eq_true (by first | (with_reducible assumption) | assumption)
                     obtain ⟨ad229, e229, hx229_0, hx229_1, hx229_2, hx229_3⟩ := at_T37 HR0.out x13_4 p229 q229
                     have hw229_3 := hx229_3
                     have hw229_2 := hx229_2
                     have hw229_1 := hx229_1
                     have hw229_0 := hx229_0
                     obtain rfl : ad228 = ad229 := (by injection e229)
                     replace hx229_0 := (HB.out.cell (World.block_lt_of_cell? w _ hx229_0)).trans hx229_0
                     replace hx229_1 := (HB.out.cell (World.block_lt_of_cell? w _ hx229_1)).trans hx229_1
                     replace hx229_2 := (HB.out.cell (World.block_lt_of_cell? w _ hx229_2)).trans hx229_2
                     replace hx229_3 := (HB.out.cell (World.block_lt_of_cell? w _ hx229_3)).trans hx229_3
                     replace p229 := eq_true p229
                     replace q229 := eq_true q229
                     have p231 : 0 ≤ (x12_4 : Int) := of_decide_eq_true (by first | (with_reducible assumption) | assumption)
                     have q231 : x12_4 < (l0.length : Int) := of_decide_eq_true (by first | (with_reducible assumption) | assumption)
                     obtain ⟨ad231, e231, hx231_0, hx231_1, hx231_2, hx231_3⟩ := at_T37 HR0.out x12_4 p231 q231
                     have hw231_3 := hx231_3
                     have hw231_2 := hx231_2
                     have hw231_1 := hx231_1
                     have hw231_0 := hx231_0
                     obtain rfl : ad228 = ad231 := (by injection e231)
                     replace hx231_0 := (HB.out.cell (World.block_lt_of_cell? w _ hx231_0)).trans hx231_0
                     replace hx231_1 := (HB.out.cell (World.block_lt_of_cell? w _ hx231_1)).trans hx231_1
                     replace hx231_2 := (HB.out.cell (World.block_lt_of_cell? w _ hx231_2)).trans hx231_2
                     replace hx231_3 := (HB.out.cell (World.block_lt_of_cell? w _ hx231_3)).trans hx231_3
                     replace p231 := eq_true p231
                     replace q231 := eq_true q231
                     have p232 : 0 ≤ (x12_4 : Int) := of_decide_eq_true (by first | (with_reducible assumption) | assumption)
                     have q232 : x12_4 < (l0.length : Int) := of_decide_eq_true (by first | (with_reducible assumption) | assumption)
                     obtain ⟨ad232, e232, hx232_0, hx232_1, hx232_2, hx232_3⟩ := at_T37 HR0.out x12_4 p232 q232
                     have hw232_3 := hx232_3
                     have hw232_2 := hx232_2
                     have hw232_1 := hx232_1
                     have hw232_0 := hx232_0
                     obtain rfl : ad228 = ad232 := (by injection e232)
                     replace hx232_0 := (HB.out.cell (World.block_lt_of_cell? w _ hx232_0)).trans hx232_0
                     replace hx232_1 := (HB.out.cell (World.block_lt_of_cell? w _ hx232_1)).trans hx232_1
                     replace hx232_2 := (HB.out.cell (World.block_lt_of_cell? w _ hx232_2)).trans hx232_2
                     replace hx232_3 := (HB.out.cell (World.block_lt_of_cell? w _ hx232_3)).trans hx232_3
                     replace p232 := eq_true p232
                     replace q232 := eq_true q232
                     refine start_ (n := 31) (S := fun w' => w'.cell? (ad228.add ((x13_4).toNat * 4)) = some (.int .u64 ((rd_T37 l0 x13_4).f0)) ∧ w'.cell? ⟨(ad228.add ((x13_4).toNat * 4)).block, (ad228.add ((x13_4).toNat * 4)).off + 1, none⟩ = some (.int .u32 ((rd_T37 l0 x13_4).f1)) ∧ w'.cell? ⟨(ad228.add ((x13_4).toNat * 4)).block, (ad228.add ((x13_4).toNat * 4)).off + 2, none⟩ = some (.int .u32 ((rd_T37 l0 x13_4).f2)) ∧ w'.cell? ⟨(ad228.add ((x13_4).toNat * 4)).block, (ad228.add ((x13_4).toNat * 4)).off + 3, none⟩ = some (.string ((rd_T37 l0 x13_4).f3)) ∧ w'.cell? (ad228.add ((x13_4).toNat * 4)) = some (.int .u64 ((rd_T37 l0 x13_4).f0)) ∧ w'.cell? ⟨(ad228.add ((x13_4).toNat * 4)).block, (ad228.add ((x13_4).toNat * 4)).off + 1, none⟩ = some (.int .u32 ((rd_T37 l0 x13_4).f1)) ∧ w'.cell? ⟨(ad228.add ((x13_4).toNat * 4)).block, (ad228.add ((x13_4).toNat * 4)).off + 2, none⟩ = some (.int .u32 ((rd_T37 l0 x13_4).f2)) ∧ w'.cell? ⟨(ad228.add ((x13_4).toNat * 4)).block, (ad228.add ((x13_4).toNat * 4)).off + 3, none⟩ = some (.string ((rd_T37 l0 x13_4).f3)) ∧ w'.cell? (ad228.add ((x12_4).toNat * 4)) = some (.int .u64 ((rd_T37 l0 x12_4).f0)) ∧ w'.cell? ⟨(ad228.add ((x12_4).toNat * 4)).block, (ad228.add ((x12_4).toNat * 4)).off + 1, none⟩ = some (.int .u32 ((rd_T37 l0 x12_4).f1)) ∧ w'.cell? ⟨(ad228.add ((x12_4).toNat * 4)).block, (ad228.add ((x12_4).toNat * 4)).off + 2, none⟩ = some (.int .u32 ((rd_T37 l0 x12_4).f2)) ∧ w'.cell? ⟨(ad228.add ((x12_4).toNat * 4)).block, (ad228.add ((x12_4).toNat * 4)).off + 3, none⟩ = some (.string ((rd_T37 l0 x12_4).f3)) ∧ w'.cell? (ad228.add ((x12_4).toNat * 4)) = some (.int .u64 ((rd_T37 l0 x12_4).f0)) ∧ w'.cell? ⟨(ad228.add ((x12_4).toNat * 4)).block, (ad228.add ((x12_4).toNat * 4)).off + 1, none⟩ = some (.int .u32 ((rd_T37 l0 x12_4).f1)) ∧ w'.cell? ⟨(ad228.add ((x12_4).toNat * 4)).block, (ad228.add ((x12_4).toNat * 4)).off + 2, none⟩ = some (.int .u32 ((rd_T37 l0 x12_4).f2)) ∧ w'.cell? ⟨(ad228.add ((x12_4).toNat * 4)).block, (ad228.add ((x12_4).toNat * 4)).off + 3, none⟩ = some (.string ((rd_T37 l0 x12_4).f3))) (ds := []) #[false, false, false, false, false, false, false, false, false, false, false, false, false, false, false, false, false, false, false, false, false, false, false, false, false, false, false, false, false, false, false] (by kernel_rfl) rfl rfl ⟨((HB.out.cell (World.block_lt_of_cell? w _ hw228_0)).trans hw228_0), ((HB.out.cell (World.block_lt_of_cell? w _ hw228_1)).trans hw228_1), ((HB.out.cell (World.block_lt_of_cell? w _ hw228_2)).trans hw228_2), ((HB.out.cell (World.block_lt_of_cell? w _ hw228_3)).trans hw228_3), ((HB.out.cell (World.block_lt_of_cell? w _ hw229_0)).trans hw229_0), ((HB.out.cell (World.block_lt_of_cell? w _ hw229_1)).trans hw229_1), ((HB.out.cell (World.block_lt_of_cell? w _ hw229_2)).trans hw229_2), ((HB.out.cell (World.block_lt_of_cell? w _ hw229_3)).trans hw229_3), ((HB.out.cell (World.block_lt_of_cell? w _ hw231_0)).trans hw231_0), ((HB.out.cell (World.block_lt_of_cell? w _ hw231_1)).trans hw231_1), ((HB.out.cell (World.block_lt_of_cell? w _ hw231_2)).trans hw231_2), ((HB.out.cell (World.block_lt_of_cell? w _ hw231_3)).trans hw231_3), ((HB.out.cell (World.block_lt_of_cell? w _ hw232_0)).trans hw232_0), ((HB.out.cell (World.block_lt_of_cell? w _ hw232_1)).trans hw232_1), ((HB.out.cell (World.block_lt_of_cell? w _ hw232_2)).trans hw232_2), ((HB.out.cell (World.block_lt_of_cell? w _ hw232_3)).trans hw232_3)⟩ (fun hHeld => ?_); refine with_tabW sphragisref09_Near.tab11 sphragisref09_Near.bits11 (fun HT_ HW_ => ?_)
                     generalize wr.drew = w33 at HO_10 HO_11 HB hx228_0 hx228_1 hx228_2 hx228_3 hx229_0 hx229_1 hx229_2 hx229_3 hx231_0 hx231_1 hx231_2 hx231_3 hx232_0 hx232_1 hx232_2 hx232_3 hHeld ⊢
                     refine pA 0 HT_ ?_
                     refine pA 1 HT_ ?_
                     refine pA 2 HT_ ?_
                     refine pA 3 HT_ ?_
                     refine pA 4 HT_ ?_
                     refine pA 5 HT_ ?_
                     refine pA 6 HT_ ?_
                     refine pA 7 HT_ ?_
                     refine pA 8 HT_ ?_
                     refine pA 10 HT_ ?_
                     refine pA 11 HT_ ?_
                     refine pA 12 HT_ ?_
                     refine pA 13 HT_ ?_
                     refine pA 16 HT_ ?_
                     refine pA 17 HT_ ?_
                     refine pA 18 HT_ ?_
                     refine pA 19 HT_ ?_
                     refine pA 20 HT_ ?_
                     refine pA 21 HT_ ?_
                     refine pA 23 HT_ ?_
                     refine pA 24 HT_ ?_
                     refine pA 25 HT_ ?_
                     refine pA 26 HT_ ?_
                     refine tA 9 HT_ HW_ ?_
                     refine tA 14 HT_ HW_ ?_
                     refine tA 22 HT_ HW_ ?_
                     refine tA 27 HT_ HW_ ?_
                     refine oA 15 HT_ (fun K hK => ?_)
                     refine goes_ Tryz.func44 (by kernel_rfl) rfl #[.int .u32 a1, .int .u32 a2, .int .u32 ((rd_T37 l0 x13_4).f1), .int .u32 ((rd_T37 l0 x13_4).f2)] (by rfl) rfl rfl (by (try simp only [List.map_toArray, List.map_cons, List.map_nil]); first | done | rfl | (simp only [List.length_drop, List.length_take]; rfl)) ?_
                     with_reducible refine (sphragisref08_Square.calls a1 a2 ((rd_T37 l0 x13_4).f1) ((rd_T37 l0 x13_4).f2) t230 _ A27.out).mono ?_
                     rintro e w34 ⟨rfl, hb⟩
                     refine ⟨_, rfl, ?_⟩
                     have n0_ := Aside0.mk (Kd.R_below (by (with_reducible repeat (first | apply Kd.R_alloc | apply Kd.R_drewN | apply Kd.R_drew)); exact HO_10.out) hb)
                     have n1_ := Aside0.mk (Kd.R_below (by (with_reducible repeat (first | apply Kd.R_alloc | apply Kd.R_drewN | apply Kd.R_drew)); exact HO_11.out) hb)
                     have n2_ := Aside0.mk (below_step (by repeat (first | (with_reducible first | exact HB.out | apply below_alloc | apply pw_below_drewN | apply below_drew1) | exact HB.out)) hb)
                     clear HO_10
                     clear HO_11
                     clear HB
                     have HO_10 := n0_
                     have HO_11 := n1_
                     have HB := n2_
                     clear n0_ n1_ n2_
                     (try clear hb)
                     (try clear hb2)
                     (try clear hk)
                     (try clear hi)
                     refine hK.out _ _ ⟨((HB.out.cell (World.block_lt_of_cell? w _ hw228_0)).trans hw228_0), ((HB.out.cell (World.block_lt_of_cell? w _ hw228_1)).trans hw228_1), ((HB.out.cell (World.block_lt_of_cell? w _ hw228_2)).trans hw228_2), ((HB.out.cell (World.block_lt_of_cell? w _ hw228_3)).trans hw228_3), ((HB.out.cell (World.block_lt_of_cell? w _ hw229_0)).trans hw229_0), ((HB.out.cell (World.block_lt_of_cell? w _ hw229_1)).trans hw229_1), ((HB.out.cell (World.block_lt_of_cell? w _ hw229_2)).trans hw229_2), ((HB.out.cell (World.block_lt_of_cell? w _ hw229_3)).trans hw229_3), ((HB.out.cell (World.block_lt_of_cell? w _ hw231_0)).trans hw231_0), ((HB.out.cell (World.block_lt_of_cell? w _ hw231_1)).trans hw231_1), ((HB.out.cell (World.block_lt_of_cell? w _ hw231_2)).trans hw231_2), ((HB.out.cell (World.block_lt_of_cell? w _ hw231_3)).trans hw231_3), ((HB.out.cell (World.block_lt_of_cell? w _ hw232_0)).trans hw232_0), ((HB.out.cell (World.block_lt_of_cell? w _ hw232_1)).trans hw232_1), ((HB.out.cell (World.block_lt_of_cell? w _ hw232_2)).trans hw232_2), ((HB.out.cell (World.block_lt_of_cell? w _ hw232_3)).trans hw232_3)⟩ (fun hHeld => ?_)
                     clear hK K
                     refine norm_ (a' := ?_) ?_ ?_
                     rotate_left
                     ·show Act.put _ (some 63) _ = _
                      simp only [Act.put, List.setIfInBounds_toArray, List.set_cons_zero, List.set_cons_succ, i64_w, i32_w]
                      rfl
                     refine oA 28 HT_ (fun K hK => ?_)
                     refine goes_ Tryz.func44 (by kernel_rfl) rfl #[.int .u32 a1, .int .u32 a2, .int .u32 ((rd_T37 l0 x12_4).f1), .int .u32 ((rd_T37 l0 x12_4).f2)] (by rfl) rfl rfl (by (try simp only [List.map_toArray, List.map_cons, List.map_nil]); first | done | rfl | (simp only [List.length_drop, List.length_take]; rfl)) ?_
                     with_reducible refine (sphragisref08_Square.calls a1 a2 ((rd_T37 l0 x12_4).f1) ((rd_T37 l0 x12_4).f2) t233 _ A30.out).mono ?_
                     rintro e w35 ⟨rfl, hb⟩
                     refine ⟨_, rfl, ?_⟩
                     have n0_ := Aside0.mk (Kd.R_below (by (with_reducible repeat (first | apply Kd.R_alloc | apply Kd.R_drewN | apply Kd.R_drew)); exact HO_10.out) hb)
                     have n1_ := Aside0.mk (Kd.R_below (by (with_reducible repeat (first | apply Kd.R_alloc | apply Kd.R_drewN | apply Kd.R_drew)); exact HO_11.out) hb)
                     have n2_ := Aside0.mk (below_step (by repeat (first | (with_reducible first | exact HB.out | apply below_alloc | apply pw_below_drewN | apply below_drew1) | exact HB.out)) hb)
                     clear HO_10
                     clear HO_11
                     clear HB
                     have HO_10 := n0_
                     have HO_11 := n1_
                     have HB := n2_
                     clear n0_ n1_ n2_
                     (try clear hb)
                     (try clear hb2)
                     (try clear hk)
                     (try clear hi)
                     refine hK.out _ _ ⟨((HB.out.cell (World.block_lt_of_cell? w _ hw228_0)).trans hw228_0), ((HB.out.cell (World.block_lt_of_cell? w _ hw228_1)).trans hw228_1), ((HB.out.cell (World.block_lt_of_cell? w _ hw228_2)).trans hw228_2), ((HB.out.cell (World.block_lt_of_cell? w _ hw228_3)).trans hw228_3), ((HB.out.cell (World.block_lt_of_cell? w _ hw229_0)).trans hw229_0), ((HB.out.cell (World.block_lt_of_cell? w _ hw229_1)).trans hw229_1), ((HB.out.cell (World.block_lt_of_cell? w _ hw229_2)).trans hw229_2), ((HB.out.cell (World.block_lt_of_cell? w _ hw229_3)).trans hw229_3), ((HB.out.cell (World.block_lt_of_cell? w _ hw231_0)).trans hw231_0), ((HB.out.cell (World.block_lt_of_cell? w _ hw231_1)).trans hw231_1), ((HB.out.cell (World.block_lt_of_cell? w _ hw231_2)).trans hw231_2), ((HB.out.cell (World.block_lt_of_cell? w _ hw231_3)).trans hw231_3), ((HB.out.cell (World.block_lt_of_cell? w _ hw232_0)).trans hw232_0), ((HB.out.cell (World.block_lt_of_cell? w _ hw232_1)).trans hw232_1), ((HB.out.cell (World.block_lt_of_cell? w _ hw232_2)).trans hw232_2), ((HB.out.cell (World.block_lt_of_cell? w _ hw232_3)).trans hw232_3)⟩ (fun hHeld => ?_)
                     clear hK K
                     refine norm_ (a' := ?_) ?_ ?_
                     rotate_left
                     ·show Act.put _ (some 76) _ = _
                      simp only [Act.put, List.setIfInBounds_toArray, List.set_cons_zero, List.set_cons_succ, i64_w, i32_w]
                      rfl
                     refine pA 29 HT_ ?_
                     refine pA 30 HT_ ?_
                     refine done_ (done_of HT_.out (by kernel_rfl)) ?_
                     try go_wp2
                     go_roundg k4
                     case measure => have := HJ4.out; have := HK2.out; have := HJ12.out; have := HK4.out; omega
                     case rel => exact ⟨(x13_4), (wrap64 (x13_4 + 1)), (by first | rfl | (simp; done) | (simp [*]; done)), (by first | rfl | (simp; done) | (simp [*]; done)), H', ⟨by have := HJ4.out; have := HK2.out; have := HJ12.out; have := HK4.out; omega⟩, ⟨by (with_reducible repeat (first | apply Kd.R_alloc | apply Kd.R_drewN | apply Kd.R_drew)); exact HO_10.out⟩, ⟨by (with_reducible repeat (first | apply Kd.R_alloc | apply Kd.R_drewN | apply Kd.R_drew)); exact HO_11.out⟩, ⟨by repeat (first | (with_reducible first | exact HB.out | apply below_alloc | apply pw_below_drewN | apply below_drew1) | exact HB.out)⟩⟩
                    ·rw [if_neg c31] at H
                     have c31b0 : decide (t230 < t233) = false := decide_eq_false c31
                     clear c31
                     have H' := Aside0.mk H
                     clear H
                     obtain ⟨Ao36, co36, eo36⟩ := Kd.R_slice HO_11.out
                     subst eo36
                     have p227 : 0 ≤ (x13_4 : Int) := of_decide_eq_true (by first | (with_reducible assumption) | assumption)
                     have q227 : x13_4 < (x11_2.length : Int) := of_decide_eq_true (by first | (with_reducible assumption) | assumption)
                     obtain ⟨ad227, e227, hx227_0⟩ := Kd.at_bool (Kd.R_reads' HO_11.out).2.2 x13_4 p227 q227
                     (try rw [← Nbq21.out] at hx227_0)
                     cases e227
                     replace p227 := eq_true p227
                     replace q227 := eq_true q227
                     try go_wp2
                     have n0_ := Aside0.mk (Kd.R_drew HO_10.out)
                     have n1_ := Aside0.mk (Kd.R_drew HO_11.out)
                     have n2_ := Aside0.mk (below_drew1 HB.out)
                     clear HO_10
                     clear HO_11
                     clear HB
                     have HO_10 := n0_
                     have HO_11 := n1_
                     have HB := n2_
                     clear n0_ n1_ n2_
                     have p228 : 0 ≤ (x13_4 : Int) := of_decide_eq_true (by first | (with_reducible assumption) | assumption)
                     have q228 : x13_4 < (l0.length : Int) := of_decide_eq_true (by first | (with_reducible assumption) | assumption)
                     obtain ⟨ad228, e228, hx228_0, hx228_1, hx228_2, hx228_3⟩ := at_T37 HR0.out x13_4 p228 q228
                     have hw228_3 := hx228_3
                     have hw228_2 := hx228_2
                     have hw228_1 := hx228_1
                     have hw228_0 := hx228_0
                     cases e228
                     replace hx228_0 := (HB.out.cell (World.block_lt_of_cell? w _ hx228_0)).trans hx228_0
                     replace hx228_1 := (HB.out.cell (World.block_lt_of_cell? w _ hx228_1)).trans hx228_1
                     replace hx228_2 := (HB.out.cell (World.block_lt_of_cell? w _ hx228_2)).trans hx228_2
                     replace hx228_3 := (HB.out.cell (World.block_lt_of_cell? w _ hx228_3)).trans hx228_3
                     replace p228 := eq_true p228
                     replace q228 := eq_true q228
                     have p229 : 0 ≤ (x13_4 : Int) := of_decide_eq_true (by first | (with_reducible assumption) | assumption)
                     have q229 : x13_4 < (l0.length : Int) := of_decide_eq_true (by first | (with_reducible assumption) | assumption)
                     obtain ⟨ad229, e229, hx229_0, hx229_1, hx229_2, hx229_3⟩ := at_T37 HR0.out x13_4 p229 q229
                     have hw229_3 := hx229_3
                     have hw229_2 := hx229_2
                     have hw229_1 := hx229_1
                     have hw229_0 := hx229_0
                     obtain rfl : ad228 = ad229 := (by injection e229)
                     replace hx229_0 := (HB.out.cell (World.block_lt_of_cell? w _ hx229_0)).trans hx229_0
                     replace hx229_1 := (HB.out.cell (World.block_lt_of_cell? w _ hx229_1)).trans hx229_1
                     replace hx229_2 := (HB.out.cell (World.block_lt_of_cell? w _ hx229_2)).trans hx229_2
                     replace hx229_3 := (HB.out.cell (World.block_lt_of_cell? w _ hx229_3)).trans hx229_3
                     replace p229 := eq_true p229
                     replace q229 := eq_true q229
                     have p231 : 0 ≤ (x12_4 : Int) := of_decide_eq_true (by first | (with_reducible assumption) | assumption)
                     have q231 : x12_4 < (l0.length : Int) := of_decide_eq_true (by first | (with_reducible assumption) | assumption)
                     obtain ⟨ad231, e231, hx231_0, hx231_1, hx231_2, hx231_3⟩ := at_T37 HR0.out x12_4 p231 q231
                     have hw231_3 := hx231_3
                     have hw231_2 := hx231_2
                     have hw231_1 := hx231_1
                     have hw231_0 := hx231_0
                     obtain rfl : ad228 = ad231 := (by injection e231)
                     replace hx231_0 := (HB.out.cell (World.block_lt_of_cell? w _ hx231_0)).trans hx231_0
                     replace hx231_1 := (HB.out.cell (World.block_lt_of_cell? w _ hx231_1)).trans hx231_1
                     replace hx231_2 := (HB.out.cell (World.block_lt_of_cell? w _ hx231_2)).trans hx231_2
                     replace hx231_3 := (HB.out.cell (World.block_lt_of_cell? w _ hx231_3)).trans hx231_3
                     replace p231 := eq_true p231
                     replace q231 := eq_true q231
                     have p232 : 0 ≤ (x12_4 : Int) := of_decide_eq_true (by first | (with_reducible assumption) | assumption)
                     have q232 : x12_4 < (l0.length : Int) := of_decide_eq_true (by first | (with_reducible assumption) | assumption)
                     obtain ⟨ad232, e232, hx232_0, hx232_1, hx232_2, hx232_3⟩ := at_T37 HR0.out x12_4 p232 q232
                     have hw232_3 := hx232_3
                     have hw232_2 := hx232_2
                     have hw232_1 := hx232_1
                     have hw232_0 := hx232_0
                     obtain rfl : ad228 = ad232 := (by injection e232)
                     replace hx232_0 := (HB.out.cell (World.block_lt_of_cell? w _ hx232_0)).trans hx232_0
                     replace hx232_1 := (HB.out.cell (World.block_lt_of_cell? w _ hx232_1)).trans hx232_1
                     replace hx232_2 := (HB.out.cell (World.block_lt_of_cell? w _ hx232_2)).trans hx232_2
                     replace hx232_3 := (HB.out.cell (World.block_lt_of_cell? w _ hx232_3)).trans hx232_3
                     replace p232 := eq_true p232
                     replace q232 := eq_true q232
                     refine start_ (n := 31) (S := fun w' => w'.cell? (ad228.add ((x13_4).toNat * 4)) = some (.int .u64 ((rd_T37 l0 x13_4).f0)) ∧ w'.cell? ⟨(ad228.add ((x13_4).toNat * 4)).block, (ad228.add ((x13_4).toNat * 4)).off + 1, none⟩ = some (.int .u32 ((rd_T37 l0 x13_4).f1)) ∧ w'.cell? ⟨(ad228.add ((x13_4).toNat * 4)).block, (ad228.add ((x13_4).toNat * 4)).off + 2, none⟩ = some (.int .u32 ((rd_T37 l0 x13_4).f2)) ∧ w'.cell? ⟨(ad228.add ((x13_4).toNat * 4)).block, (ad228.add ((x13_4).toNat * 4)).off + 3, none⟩ = some (.string ((rd_T37 l0 x13_4).f3)) ∧ w'.cell? (ad228.add ((x13_4).toNat * 4)) = some (.int .u64 ((rd_T37 l0 x13_4).f0)) ∧ w'.cell? ⟨(ad228.add ((x13_4).toNat * 4)).block, (ad228.add ((x13_4).toNat * 4)).off + 1, none⟩ = some (.int .u32 ((rd_T37 l0 x13_4).f1)) ∧ w'.cell? ⟨(ad228.add ((x13_4).toNat * 4)).block, (ad228.add ((x13_4).toNat * 4)).off + 2, none⟩ = some (.int .u32 ((rd_T37 l0 x13_4).f2)) ∧ w'.cell? ⟨(ad228.add ((x13_4).toNat * 4)).block, (ad228.add ((x13_4).toNat * 4)).off + 3, none⟩ = some (.string ((rd_T37 l0 x13_4).f3)) ∧ w'.cell? (ad228.add ((x12_4).toNat * 4)) = some (.int .u64 ((rd_T37 l0 x12_4).f0)) ∧ w'.cell? ⟨(ad228.add ((x12_4).toNat * 4)).block, (ad228.add ((x12_4).toNat * 4)).off + 1, none⟩ = some (.int .u32 ((rd_T37 l0 x12_4).f1)) ∧ w'.cell? ⟨(ad228.add ((x12_4).toNat * 4)).block, (ad228.add ((x12_4).toNat * 4)).off + 2, none⟩ = some (.int .u32 ((rd_T37 l0 x12_4).f2)) ∧ w'.cell? ⟨(ad228.add ((x12_4).toNat * 4)).block, (ad228.add ((x12_4).toNat * 4)).off + 3, none⟩ = some (.string ((rd_T37 l0 x12_4).f3)) ∧ w'.cell? (ad228.add ((x12_4).toNat * 4)) = some (.int .u64 ((rd_T37 l0 x12_4).f0)) ∧ w'.cell? ⟨(ad228.add ((x12_4).toNat * 4)).block, (ad228.add ((x12_4).toNat * 4)).off + 1, none⟩ = some (.int .u32 ((rd_T37 l0 x12_4).f1)) ∧ w'.cell? ⟨(ad228.add ((x12_4).toNat * 4)).block, (ad228.add ((x12_4).toNat * 4)).off + 2, none⟩ = some (.int .u32 ((rd_T37 l0 x12_4).f2)) ∧ w'.cell? ⟨(ad228.add ((x12_4).toNat * 4)).block, (ad228.add ((x12_4).toNat * 4)).off + 3, none⟩ = some (.string ((rd_T37 l0 x12_4).f3))) (ds := []) #[false, false, false, false, false, false, false, false, false, false, false, false, false, false, false, false, false, false, false, false, false, false, false, false, false, false, false, false, false, false, false] (by kernel_rfl) rfl rfl ⟨((HB.out.cell (World.block_lt_of_cell? w _ hw228_0)).trans hw228_0), ((HB.out.cell (World.block_lt_of_cell? w _ hw228_1)).trans hw228_1), ((HB.out.cell (World.block_lt_of_cell? w _ hw228_2)).trans hw228_2), ((HB.out.cell (World.block_lt_of_cell? w _ hw228_3)).trans hw228_3), ((HB.out.cell (World.block_lt_of_cell? w _ hw229_0)).trans hw229_0), ((HB.out.cell (World.block_lt_of_cell? w _ hw229_1)).trans hw229_1), ((HB.out.cell (World.block_lt_of_cell? w _ hw229_2)).trans hw229_2), ((HB.out.cell (World.block_lt_of_cell? w _ hw229_3)).trans hw229_3), ((HB.out.cell (World.block_lt_of_cell? w _ hw231_0)).trans hw231_0), ((HB.out.cell (World.block_lt_of_cell? w _ hw231_1)).trans hw231_1), ((HB.out.cell (World.block_lt_of_cell? w _ hw231_2)).trans hw231_2), ((HB.out.cell (World.block_lt_of_cell? w _ hw231_3)).trans hw231_3), ((HB.out.cell (World.block_lt_of_cell? w _ hw232_0)).trans hw232_0), ((HB.out.cell (World.block_lt_of_cell? w _ hw232_1)).trans hw232_1), ((HB.out.cell (World.block_lt_of_cell? w _ hw232_2)).trans hw232_2), ((HB.out.cell (World.block_lt_of_cell? w _ hw232_3)).trans hw232_3)⟩ (fun hHeld => ?_); refine with_tabW sphragisref09_Near.tab11 sphragisref09_Near.bits11 (fun HT_ HW_ => ?_)
                     generalize wr.drew = w37 at HO_10 HO_11 HB hx228_0 hx228_1 hx228_2 hx228_3 hx229_0 hx229_1 hx229_2 hx229_3 hx231_0 hx231_1 hx231_2 hx231_3 hx232_0 hx232_1 hx232_2 hx232_3 hHeld ⊢
                     refine pA 0 HT_ ?_
                     refine pA 1 HT_ ?_
                     refine pA 2 HT_ ?_
                     refine pA 3 HT_ ?_
                     refine pA 4 HT_ ?_
                     refine pA 5 HT_ ?_
                     refine pA 6 HT_ ?_
                     refine pA 7 HT_ ?_
                     refine pA 8 HT_ ?_
                     refine pA 10 HT_ ?_
                     refine pA 11 HT_ ?_
                     refine pA 12 HT_ ?_
                     refine pA 13 HT_ ?_
                     refine pA 16 HT_ ?_
                     refine pA 17 HT_ ?_
                     refine pA 18 HT_ ?_
                     refine pA 19 HT_ ?_
                     refine pA 20 HT_ ?_
                     refine pA 21 HT_ ?_
                     refine pA 23 HT_ ?_
                     refine pA 24 HT_ ?_
                     refine pA 25 HT_ ?_
                     refine pA 26 HT_ ?_
                     refine tA 9 HT_ HW_ ?_
                     refine tA 14 HT_ HW_ ?_
                     refine tA 22 HT_ HW_ ?_
                     refine tA 27 HT_ HW_ ?_
                     refine oA 15 HT_ (fun K hK => ?_)
                     refine goes_ Tryz.func44 (by kernel_rfl) rfl #[.int .u32 a1, .int .u32 a2, .int .u32 ((rd_T37 l0 x13_4).f1), .int .u32 ((rd_T37 l0 x13_4).f2)] (by rfl) rfl rfl (by (try simp only [List.map_toArray, List.map_cons, List.map_nil]); first | done | rfl | (simp only [List.length_drop, List.length_take]; rfl)) ?_
                     with_reducible refine (sphragisref08_Square.calls a1 a2 ((rd_T37 l0 x13_4).f1) ((rd_T37 l0 x13_4).f2) t230 _ A27.out).mono ?_
                     rintro e w38 ⟨rfl, hb⟩
                     refine ⟨_, rfl, ?_⟩
                     have n0_ := Aside0.mk (Kd.R_below (by (with_reducible repeat (first | apply Kd.R_alloc | apply Kd.R_drewN | apply Kd.R_drew)); exact HO_10.out) hb)
                     have n1_ := Aside0.mk (Kd.R_below (by (with_reducible repeat (first | apply Kd.R_alloc | apply Kd.R_drewN | apply Kd.R_drew)); exact HO_11.out) hb)
                     have n2_ := Aside0.mk (below_step (by repeat (first | (with_reducible first | exact HB.out | apply below_alloc | apply pw_below_drewN | apply below_drew1) | exact HB.out)) hb)
                     clear HO_10
                     clear HO_11
                     clear HB
                     have HO_10 := n0_
                     have HO_11 := n1_
                     have HB := n2_
                     clear n0_ n1_ n2_
                     (try clear hb)
                     (try clear hb2)
                     (try clear hk)
                     (try clear hi)
                     refine hK.out _ _ ⟨((HB.out.cell (World.block_lt_of_cell? w _ hw228_0)).trans hw228_0), ((HB.out.cell (World.block_lt_of_cell? w _ hw228_1)).trans hw228_1), ((HB.out.cell (World.block_lt_of_cell? w _ hw228_2)).trans hw228_2), ((HB.out.cell (World.block_lt_of_cell? w _ hw228_3)).trans hw228_3), ((HB.out.cell (World.block_lt_of_cell? w _ hw229_0)).trans hw229_0), ((HB.out.cell (World.block_lt_of_cell? w _ hw229_1)).trans hw229_1), ((HB.out.cell (World.block_lt_of_cell? w _ hw229_2)).trans hw229_2), ((HB.out.cell (World.block_lt_of_cell? w _ hw229_3)).trans hw229_3), ((HB.out.cell (World.block_lt_of_cell? w _ hw231_0)).trans hw231_0), ((HB.out.cell (World.block_lt_of_cell? w _ hw231_1)).trans hw231_1), ((HB.out.cell (World.block_lt_of_cell? w _ hw231_2)).trans hw231_2), ((HB.out.cell (World.block_lt_of_cell? w _ hw231_3)).trans hw231_3), ((HB.out.cell (World.block_lt_of_cell? w _ hw232_0)).trans hw232_0), ((HB.out.cell (World.block_lt_of_cell? w _ hw232_1)).trans hw232_1), ((HB.out.cell (World.block_lt_of_cell? w _ hw232_2)).trans hw232_2), ((HB.out.cell (World.block_lt_of_cell? w _ hw232_3)).trans hw232_3)⟩ (fun hHeld => ?_)
                     clear hK K
                     refine norm_ (a' := ?_) ?_ ?_
                     rotate_left
                     ·show Act.put _ (some 63) _ = _
                      simp only [Act.put, List.setIfInBounds_toArray, List.set_cons_zero, List.set_cons_succ, i64_w, i32_w]
                      rfl
                     refine oA 28 HT_ (fun K hK => ?_)
                     refine goes_ Tryz.func44 (by kernel_rfl) rfl #[.int .u32 a1, .int .u32 a2, .int .u32 ((rd_T37 l0 x12_4).f1), .int .u32 ((rd_T37 l0 x12_4).f2)] (by rfl) rfl rfl (by (try simp only [List.map_toArray, List.map_cons, List.map_nil]); first | done | rfl | (simp only [List.length_drop, List.length_take]; rfl)) ?_
                     with_reducible refine (sphragisref08_Square.calls a1 a2 ((rd_T37 l0 x12_4).f1) ((rd_T37 l0 x12_4).f2) t233 _ A30.out).mono ?_
                     rintro e w39 ⟨rfl, hb⟩
                     refine ⟨_, rfl, ?_⟩
                     have n0_ := Aside0.mk (Kd.R_below (by (with_reducible repeat (first | apply Kd.R_alloc | apply Kd.R_drewN | apply Kd.R_drew)); exact HO_10.out) hb)
                     have n1_ := Aside0.mk (Kd.R_below (by (with_reducible repeat (first | apply Kd.R_alloc | apply Kd.R_drewN | apply Kd.R_drew)); exact HO_11.out) hb)
                     have n2_ := Aside0.mk (below_step (by repeat (first | (with_reducible first | exact HB.out | apply below_alloc | apply pw_below_drewN | apply below_drew1) | exact HB.out)) hb)
                     clear HO_10
                     clear HO_11
                     clear HB
                     have HO_10 := n0_
                     have HO_11 := n1_
                     have HB := n2_
                     clear n0_ n1_ n2_
                     (try clear hb)
                     (try clear hb2)
                     (try clear hk)
                     (try clear hi)
                     refine hK.out _ _ ⟨((HB.out.cell (World.block_lt_of_cell? w _ hw228_0)).trans hw228_0), ((HB.out.cell (World.block_lt_of_cell? w _ hw228_1)).trans hw228_1), ((HB.out.cell (World.block_lt_of_cell? w _ hw228_2)).trans hw228_2), ((HB.out.cell (World.block_lt_of_cell? w _ hw228_3)).trans hw228_3), ((HB.out.cell (World.block_lt_of_cell? w _ hw229_0)).trans hw229_0), ((HB.out.cell (World.block_lt_of_cell? w _ hw229_1)).trans hw229_1), ((HB.out.cell (World.block_lt_of_cell? w _ hw229_2)).trans hw229_2), ((HB.out.cell (World.block_lt_of_cell? w _ hw229_3)).trans hw229_3), ((HB.out.cell (World.block_lt_of_cell? w _ hw231_0)).trans hw231_0), ((HB.out.cell (World.block_lt_of_cell? w _ hw231_1)).trans hw231_1), ((HB.out.cell (World.block_lt_of_cell? w _ hw231_2)).trans hw231_2), ((HB.out.cell (World.block_lt_of_cell? w _ hw231_3)).trans hw231_3), ((HB.out.cell (World.block_lt_of_cell? w _ hw232_0)).trans hw232_0), ((HB.out.cell (World.block_lt_of_cell? w _ hw232_1)).trans hw232_1), ((HB.out.cell (World.block_lt_of_cell? w _ hw232_2)).trans hw232_2), ((HB.out.cell (World.block_lt_of_cell? w _ hw232_3)).trans hw232_3)⟩ (fun hHeld => ?_)
                     clear hK K
                     refine norm_ (a' := ?_) ?_ ?_
                     rotate_left
                     ·show Act.put _ (some 76) _ = _
                      simp only [Act.put, List.setIfInBounds_toArray, List.set_cons_zero, List.set_cons_succ, i64_w, i32_w]
                      rfl
                     refine pA 29 HT_ ?_
                     refine pA 30 HT_ ?_
                     refine done_ (done_of HT_.out (by kernel_rfl)) ?_
                     try go_wp2
                     go_roundg k4
                     case measure => have := HJ4.out; have := HK2.out; have := HJ12.out; have := HK4.out; omega
                     case rel => exact ⟨(x12_4), (wrap64 (x13_4 + 1)), (by first | rfl | (simp; done) | (simp [*]; done)), (by first | rfl | (simp; done) | (simp [*]; done)), H', ⟨by have := HJ4.out; have := HK2.out; have := HJ12.out; have := HK4.out; omega⟩, ⟨by (with_reducible repeat (first | apply Kd.R_alloc | apply Kd.R_drewN | apply Kd.R_drew)); exact HO_10.out⟩, ⟨by (with_reducible repeat (first | apply Kd.R_alloc | apply Kd.R_drewN | apply Kd.R_drew)); exact HO_11.out⟩, ⟨by repeat (first | (with_reducible first | exact HB.out | apply below_alloc | apply pw_below_drewN | apply below_drew1) | exact HB.out)⟩⟩
                   ·rw [if_neg c29] at H
                    exact absurd H (by simp)
                  ·rw [if_neg c28] at H
                   exact absurd H (by simp)
               ·rw [if_neg c20] at H
                exact absurd H (by simp)
              ·rw [if_neg c19] at H
               exact absurd H (by simp)
             ·rw [if_neg c18] at H
              have c18b0 : decide (x13_4 < (l0.length : Int)) = false := decide_eq_false c18
              clear c18
              by_cases c40 : 0 ≤ x12_4
              ·rw [if_pos c40] at H
               have c40b0 : decide (0 ≤ x12_4) = true := decide_eq_true c40
               clear c40
               by_cases c41 : x12_4 < (x11_2.length : Int)
               ·rw [if_pos c41] at H
                have c41b0 : decide (x12_4 < (x11_2.length : Int)) = true := decide_eq_true c41
                clear c41
                obtain ⟨y222, hy222⟩ : ∃ y_ : List Bool, y_ = (x11_2.set (x12_4 : Int).toNat true) := ⟨_, rfl⟩
                replace H : (if x12_4 < (l0.length : Int) then (if x10_2.length < 4398046511104 then (sphragisref09_Near.l0 k4 l0 a1 a2 a3 (x10_2 ++ [(⟨(rd_T37 l0 x12_4).f0, (rd_T37 l0 x12_4).f1, (rd_T37 l0 x12_4).f2, (rd_T37 l0 x12_4).f3⟩ : S37)]) y222) else (none)) else (none)) = some (r1, r2) := by first | (rw [hy222]; with_reducible exact H) | (have H2_ := (Option.bind_some _ _).symm.trans H; rw [hy222]; with_reducible exact H2_) | (have H2_ := (Option.bind_some _ _).symm.trans H; with_reducible exact H2_) | with_reducible exact H | (rw [hy222]; exact H) | exact H
                have Ny222 := Aside0.mk hy222
                clear hy222
                by_cases c43 : x12_4 < (l0.length : Int)
                ·rw [if_pos c43] at H
                 have c43b0 : decide (x12_4 < (l0.length : Int)) = true := decide_eq_true c43
                 clear c43
                 by_cases c44 : x10_2.length < 4398046511104
                 ·rw [if_pos c44] at H
                  have LMc44 := Aside0.mk c44
                  clear c44
                  obtain ⟨y224, hy224⟩ : ∃ y_ : List (S37), y_ = (x10_2 ++ [(⟨(rd_T37 l0 x12_4).f0, (rd_T37 l0 x12_4).f1, (rd_T37 l0 x12_4).f2, (rd_T37 l0 x12_4).f3⟩ : S37)]) := ⟨_, rfl⟩
                  replace H : (sphragisref09_Near.l0 k4 l0 a1 a2 a3 y224 y222) = some (r1, r2) := by first | (rw [hy224]; with_reducible exact H) | (have H2_ := (Option.bind_some _ _).symm.trans H; rw [hy224]; with_reducible exact H2_) | (have H2_ := (Option.bind_some _ _).symm.trans H; with_reducible exact H2_) | with_reducible exact H | (rw [hy224]; exact H) | exact H
                  have Ny224 := Aside0.mk hy224
                  clear hy224
                  have H' := Aside0.mk H
                  clear H
                  have p42 : 0 ≤ (x12_4 : Int) := of_decide_eq_true (by first | (with_reducible assumption) | assumption)
                  have q42 : (x12_4 : Int) < ((x11_2.length : Int) : Int) := of_decide_eq_true (by first | (with_reducible assumption) | assumption)
                  obtain ⟨go42, co42, eo42, gb42, gl42, cl42, HG42⟩ := Kd.R_form HO_11.out (by omega)
                  (first | cases eo42 | (injection eo42 with ea_ en_ ec_; (first | subst ea_ | (injection ea_ with ea_; subst ea_)); subst ec_; clear en_))
                  have GB42 := Aside0.mk gb42
                  have GG42 := Aside0.mk HG42
                  clear gb42 gl42 HG42
                  obtain ⟨hx42_0, hf42_0⟩ := Kd.R_celln false HO_11.out (x12_4 : Int) p42 q42
                  replace p42 := eq_true p42
                  replace q42 := eq_true q42
                  have HP45 := Kd.R_putg HO_11.out (x12_4 : Int) true
                  go_wp2_with (first | ((with_reducible refine gate_store (t := 4) (p := 82) rfl ?_); refine store_event (t := 4) (p := 82) (v := ?vo_w46) (w1 := (wr.setCell ⟨go42, (x12_4 : Int).toNat, none⟩ (.bool true))) ?hg ?ho ?hn ?hr ?_; (case ho => rfl); (case hg => rfl); (case hn => rfl); (case hr => first | (go_simp; done) | (go_simp; rfl)); intro w46 hw; have hg : wr.grownBy w46 (some go42) := (by rw [hw]; exact HP45.2); have hp_ : Kd.R Kd.bool 4 w46 w.heap.size (fun _ => True) (.slice (some ⟨go42, 0, none⟩) x11_2.length co42) y222 := (by rw [hw, Ny222.out]; exact HP45.1); clear HP45; have n0_ := Aside0.mk (Kd.R_over' (v := (.slice (some ⟨go42, 0, none⟩) x11_2.length co42)) (by (with_reducible repeat (first | apply Kd.R_alloc | apply Kd.R_drewN | apply Kd.R_drew)); exact HO_10.out) (Kd.R_typed HO_11.out) (by decide) hg); have n1_ := Aside0.mk (hp_); have n2_ := Aside0.mk ((by rw [hw]; exact below_set (HB.out) GB42.out : Below w.heap.size w w46)); clear HO_10; clear HO_11; clear HB; have HO_10 := n0_; have HO_11 := n1_; have HB := n2_; clear n0_ n1_ n2_; clear hg hw hp_; have p223 : 0 ≤ (x12_4 : Int) := of_decide_eq_true (by first | (with_reducible assumption) | assumption); have q223 : x12_4 < (l0.length : Int) := of_decide_eq_true (by first | (with_reducible assumption) | assumption); obtain ⟨ad223, e223, hx223_0, hx223_1, hx223_2, hx223_3⟩ := at_T37 HR0.out x12_4 p223 q223; cases e223; replace hx223_0 := (HB.out.cell (World.block_lt_of_cell? w _ hx223_0)).trans hx223_0; replace hx223_1 := (HB.out.cell (World.block_lt_of_cell? w _ hx223_1)).trans hx223_1; replace hx223_2 := (HB.out.cell (World.block_lt_of_cell? w _ hx223_2)).trans hx223_2; replace hx223_3 := (HB.out.cell (World.block_lt_of_cell? w _ hx223_3)).trans hx223_3; replace p223 := eq_true p223; replace q223 := eq_true q223) | ((with_reducible refine gate_builtin (b := .append) (xs := #[.tmp 83, .tmp 88]) rfl ?_); (try (refine gate_guard (by rfl) ?_; dsimp only)); at_builtin; refine Kd.R_append k37 (w0 := w) w.heap.size rfl (.tmp 83) (.tmp 88) 22 37 (.agg #[(.int .u64 0), (.int .u32 0), (.int .u32 0), (.string ⟨#[]⟩)]) 32 rfl Tryz.underlying22 info37 rfl (by decide) (by omega) u10 x10_2 (⟨(rd_T37 l0 x12_4).f0, (rd_T37 l0 x12_4).f1, (rd_T37 l0 x12_4).f2, (rd_T37 l0 x12_4).f3⟩ : S37) [.int .u64 ((rd_T37 l0 x12_4).f0), .int .u32 ((rd_T37 l0 x12_4).f1), .int .u32 ((rd_T37 l0 x12_4).f2), .string ((rd_T37 l0 x12_4).f3)] (fun _ => True) (fun _ => False) rfl rfl ?aP (fun _ hk => hk.elim) ?aF ?aO ?aB ?aS ?aL ?_; (case aP => exact k37_mkM _ _ _ (⟨(rd_T37 l0 x12_4).f0, (rd_T37 l0 x12_4).f1, (rd_T37 l0 x12_4).f2, (rd_T37 l0 x12_4).f3⟩ : S37)); (case aB => exact (by repeat (first | (with_reducible first | exact HB.out | apply below_alloc | apply pw_below_drewN | apply below_drew1) | exact HB.out))); (case aF => exact (fun _ _ => trivial)); (case aO => exact (by (with_reducible repeat (first | apply Kd.R_alloc | apply Kd.R_drewN | apply Kd.R_drew)); exact HO_10.out)); (case aS => exact (below_size (by repeat (first | (with_reducible first | exact HB.out | apply below_alloc | apply pw_below_drewN | apply below_drew1) | exact HB.out)))); (case aL => have := LMc44.out; omega); intro v225 w47 ho hb hg hat; rw [← Ny224.out] at ho; have n0_ := Aside0.mk (Kd.R_over' (by (with_reducible repeat (first | apply Kd.R_alloc | apply Kd.R_drewN | apply Kd.R_drew)); exact HO_11.out) (Kd.R_typed (by (with_reducible repeat (first | apply Kd.R_alloc | apply Kd.R_drewN | apply Kd.R_drew)); exact HO_10.out)) (by decide) hg); have n1_ := Aside0.mk (hb); have n2_ := Aside0.mk (ho); clear HO_11; clear HB; clear HO_10; have HO_11 := n0_; have HB := n1_; have HO226 := n2_; clear n0_ n1_ n2_; clear ho hb hg hat))
                  go_roundg k4
                  case measure => have := HJ4.out; have := HK2.out; have := HJ12.out; have := HK4.out; omega
                  case rel => exact ⟨(y224), (y222), H', ⟨by have := HJ4.out; have := HK2.out; have := HJ12.out; have := HK4.out; omega⟩, ⟨by (with_reducible repeat (first | apply Kd.R_alloc | apply Kd.R_drewN | apply Kd.R_drew)); exact HO226.out⟩, ⟨by (with_reducible repeat (first | apply Kd.R_alloc | apply Kd.R_drewN | apply Kd.R_drew)); exact HO_11.out⟩, ⟨by repeat (first | (with_reducible first | exact HB.out | apply below_alloc | apply pw_below_drewN | apply below_drew1) | exact HB.out)⟩⟩
                 ·rw [if_neg c44] at H
                  exact absurd H (by simp)
                ·rw [if_neg c43] at H
                 exact absurd H (by simp)
               ·rw [if_neg c41] at H
                exact absurd H (by simp)
              ·rw [if_neg c40] at H
               exact absurd H (by simp)
          ·replace c17 := Bool.eq_false_iff.mpr c17
           subst c17
           have H1 : (some (x10_2, 0)) = some (r1, r2) := by rw [if_neg (show ¬ (false = true) by decide)] at H; exact H
           clear H
           have H := H1
           clear H1
           simp only [Option.some.injEq, Prod.mk.injEq] at H
           obtain ⟨rfl, rfl⟩ := H
           go_wp2
           go_ret2
           exact ⟨_, by first | rfl | (simp [errW_none, errW_some] <;> rfl) | (simp [*, errW_none, errW_some] <;> rfl), by (with_reducible repeat (first | apply Kd.R_alloc | apply Kd.R_drewN | apply Kd.R_drew)); exact HO_10.out, by repeat (first | (with_reducible first | exact HB.out | apply below_alloc | apply pw_below_drewN | apply below_drew1) | exact HB.out)⟩
     ·rw [if_neg c10] at H
      exact absurd H (by simp)
    ·rw [if_neg c9] at H
     exact absurd H (by simp)
end Go.Proofs.YtoimgijhekahhaaGreat.P

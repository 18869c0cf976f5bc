-- Laid by a program of this session: the walk of functions of the translation, for this claim.
import Derived.Test.YtoimgijhekahhaaGreatPx0
import Derived.Test.YtoimgijhekahhaaGreatPx2
namespace Go.Proofs.YtoimgijhekahhaaGreat.P
open Go.RowKit Go.Proofs.YtoimgijhekahhaaGreatOwn Go.Proofs.YtoimgijhekahhaaGreatW.PrintWords Go.Proofs.YtoimgijhekahhaaGreatW.PrintLast Go.Proofs.YtoimgijhekahhaaGreatW.PrintMore
attribute [local go_sem] max2_int min2_int max_two min_two max_three min_three max_four min_four
set_option linter.unusedVariables false
set_option linter.unusedSimpArgs false
attribute [local go_sem high] eqA41
def bits_Len32.f (a0 : Int) : Option (Int) := if 0 ≤ a0 ∧ a0 ≤ 4294967295 then some (Lib.bitLen a0.toNat : Int) else none
theorem bits_Len32.ix (i : Int) (h0 : 0 ≤ i) (h1 : i ≤ 255) : ∀ W : World, (Instr.index 9 (.string Lib.len8tab) (.int .u8 i)).run Tryz.prog W = .ok (.int .u8 (Lib.bitLen i.toNat : Int)) W := fun W => by
 rw [Lib.run_index_len8tab W 9 .u8 i Tryz.underlying9 h0 h1, Lib.len8_of i h0 h1]
set_option maxHeartbeats 4000000 in
set_option maxRecDepth 100000 in
theorem bits_Len32.calls (a0 : Int) (r : Int) (w : World) (h : bits_Len32.f a0 = some r) :
  Calls Tryz.prog 74 #[.int .u32 a0] w fun e w' => e = .returned (.int .i64 r) ∧ Drawn0 w w' := by
 unfold bits_Len32.f at h
 split at h
 ·rename_i hh
  obtain ⟨h0, h1⟩ := hh
  obtain rfl := Option.some.inj h
  clear h
  by_cases h2 : 65536 ≤ a0
  ·by_cases h3 : 256 ≤ a0 / 65536
   ·have i1 := bits_Len32.ix (a0 / 65536 / 256 % 256) (by omega) (by omega)
    have i2 := bits_Len32.ix (a0 / 65536 / 256) (by omega) (by omega)
    have e : a0.toNat / 16777216 = (a0 / 65536 / 256).toNat := by omega
    have e2 : (a0 / 65536 / 256 % 256) = (a0 / 65536 / 256) := by omega
    have s := Lib.bitLen_shift24 a0.toNat (by omega) (by omega)
    have l := Lib.bitLen_le8' (a0 / 65536 / 256) (by omega) (by omega)
    rw [e] at s
    go_enter Tryz.func74, Tryz.ntmps74
    go_wp2
    go_ret
    refine ⟨congrArg Ending.returned (congrArg (Value.int IntKind.i64) ?_), Drawn0.refl _⟩
    (try rw [s])
    (try rw [e2])
    first | rfl | omega | (unfold wrap64; omega)
   ·have i1 := bits_Len32.ix (a0 / 65536 % 256) (by omega) (by omega)
    have i2 := bits_Len32.ix (a0 / 65536) (by omega) (by omega)
    have e : a0.toNat / 65536 = (a0 / 65536).toNat := by omega
    have e2 : (a0 / 65536 % 256) = (a0 / 65536) := by omega
    have s := Lib.bitLen_shift16 a0.toNat (by omega) (by omega)
    have l := Lib.bitLen_le8' (a0 / 65536) (by omega) (by omega)
    rw [e] at s
    go_enter Tryz.func74, Tryz.ntmps74
    go_wp2
    go_ret
    refine ⟨congrArg Ending.returned (congrArg (Value.int IntKind.i64) ?_), Drawn0.refl _⟩
    (try rw [s])
    (try rw [e2])
    first | rfl | omega | (unfold wrap64; omega)
  ·by_cases h3 : 256 ≤ a0
   ·have i1 := bits_Len32.ix (a0 / 256 % 256) (by omega) (by omega)
    have i2 := bits_Len32.ix (a0 / 256) (by omega) (by omega)
    have e : a0.toNat / 256 = (a0 / 256).toNat := by omega
    have e2 : (a0 / 256 % 256) = (a0 / 256) := by omega
    have s := Lib.bitLen_shift8 a0.toNat (by omega) (by omega)
    have l := Lib.bitLen_le8' (a0 / 256) (by omega) (by omega)
    rw [e] at s
    go_enter Tryz.func74, Tryz.ntmps74
    go_wp2
    go_ret
    refine ⟨congrArg Ending.returned (congrArg (Value.int IntKind.i64) ?_), Drawn0.refl _⟩
    (try rw [s])
    (try rw [e2])
    first | rfl | omega | (unfold wrap64; omega)
   ·have i1 := bits_Len32.ix (a0 % 256) (by omega) (by omega)
    have i2 := bits_Len32.ix a0 (by omega) (by omega)
    have e2 : (a0 % 256) = a0 := by omega
    have l := Lib.bitLen_le8' a0 (by omega) (by omega)
    go_enter Tryz.func74, Tryz.ntmps74
    go_wp2
    go_ret
    refine ⟨congrArg Ending.returned (congrArg (Value.int IntKind.i64) ?_), Drawn0.refl _⟩
    (try rw [e2])
    first | rfl | omega | (unfold wrap64; omega)
 ·exact absurd h (by simp)
def cell_around.f (a0 : Int) (a1 : Int) (a2 : Int) : Option (Int × Int × Int) := if 0 ≤ a2 then (some (Go.bits .andNot .u32 a0 (((shl .u32 1 a2) - 1) % 4294967296), Go.bits .andNot .u32 a1 (((shl .u32 1 a2) - 1) % 4294967296), a2)) else (none)
set_option maxHeartbeats 8000000 in
set_option maxRecDepth 100000 in
theorem cell_around.calls (a0 : Int) (a1 : Int) (a2 : Int) (r1 : Int) (r2 : Int) (r3 : Int) (w : World) (h : cell_around.f a0 a1 a2 = some (r1, r2, r3)) :
  Calls Tryz.prog 75 #[.int .u32 a0, .int .u32 a1, .int .i64 a2] w fun e w' => e = .returned (.agg #[.int .u32 r1, .int .u32 r2, .int .i64 r3]) ∧ Below w.heap.size w w' := by
 have hu41 := Tryz.underlying41
 have HB := Aside0.mk (Below.refl w.heap.size w)
 have H : (if 0 ≤ a2 then (some (Go.bits .andNot .u32 a0 (((shl .u32 1 a2) - 1) % 4294967296), Go.bits .andNot .u32 a1 (((shl .u32 1 a2) - 1) % 4294967296), a2)) else (none)) = some (r1, r2, r3) := h
 clear h
 by_cases c4 : 0 ≤ a2
 ·rw [if_pos c4] at H
  have c4b0 := eq_true c4
  have c4b1 : decide (0 ≤ a2) = true := decide_eq_true c4
  clear c4
  obtain ⟨ji5, hji5⟩ : ∃ j_ : Int, (shl .u32 1 a2) = j_ := ⟨_, rfl⟩
  replace H : (some (Go.bits .andNot .u32 a0 (((ji5) - 1) % 4294967296), Go.bits .andNot .u32 a1 (((ji5) - 1) % 4294967296), a2)) = some (r1, r2, r3) := by first | (rw [hji5] at H; exact H) | (simp only [hji5] at H ⊢; exact H)
  have hji5_ : (IntKind.u32.wrap (1 * 2 ^ min a2.toNat 32)) = ji5 := hji5
  have hji5z : a2 ≤ 32 → (IntKind.u32.wrap (1 * 2 ^ a2.toNat)) = ji5 := shl_small hji5
  have hji5u : (IntKind.u32.wrap (2 ^ min a2.toNat 32)) = ji5 := by have h_ := hji5_; rw [Int.one_mul] at h_; exact h_
  have hji5v : a2 ≤ 32 → (IntKind.u32.wrap (2 ^ a2.toNat)) = ji5 := fun hle_ => by have h_ := hji5z hle_; rw [Int.one_mul] at h_; exact h_
  simp only [Option.some.injEq, Prod.mk.injEq] at H
  obtain ⟨rfl, rfl, rfl⟩ := H
  go_enter Tryz.func75, Tryz.ntmps75
  go_wp2_with (first | ((with_reducible refine gate_dst (N := 6) rfl ?_); refine box_event ?hg (N := 6) ?hd (cs := #[.int .u32 0, .int .u32 0, .int .i64 0]) (t := 41) ?hr ?_; (case hd => rfl); (case hg => rfl); (case hr => first | (go_simp; done) | (go_simp; rfl)); intro gb108 hg w6 hbox hb; have n0_ := Aside0.mk (below_step (by repeat (first | (with_reducible first | exact HB.out | apply below_alloc | apply pw_below_drewN | apply below_drew1) | exact HB.out)) hb); have n1_ := Aside0.mk (hbox); have n2_ := Aside0.mk ((by rw [hg]; exact (below_size (by repeat (first | (with_reducible first | exact HB.out | apply below_alloc | apply pw_below_drewN | apply below_drew1) | exact HB.out))) : w.heap.size ≤ gb108)); have n3_ := Aside0.mk ((by rw [hg]; exact (below_size (by repeat (first | (with_reducible first | exact HB.out | apply below_alloc | apply pw_below_drewN | apply below_drew1) | exact HB.out))) : w.heap.size ≤ gb108)); clear HB; have HB := n0_; have BK108 := n1_; have GW108 := n2_; have GE108 := n3_; clear n0_ n1_ n2_ n3_; clear hb hbox hg; have hcz7_0 : w6.cell? ⟨gb108, 0, none⟩ = some (.int .u32 0) := (blk_cell BK108.out 0).trans rfl; have hcz7_1 : w6.cell? ⟨gb108, 1, none⟩ = some (.int .u32 0) := (blk_cell BK108.out 1).trans rfl; have hcz7_2 : w6.cell? ⟨gb108, 2, none⟩ = some (.int .i64 0) := (blk_cell BK108.out 2).trans rfl; have hfz7_0 := blk_frozen BK108.out 0; have hfz7_1 := blk_frozen BK108.out 1; have hfz7_2 := blk_frozen BK108.out 2))
  refine bodyPost_ret (results_cell_row rfl _ _ gb108 41 #[.int .u32 (Go.bits .andNot .u32 a0 (((ji5) - 1) % 4294967296)), .int .u32 (Go.bits .andNot .u32 a1 (((ji5) - 1) % 4294967296)), .int .i64 a2] (0, 0) _ rfl (by (with_reducible repeat (first | refine blk_drewN ?_ _ | refine blk_drew ?_ | refine blk_alloc ?_ _)); refine blk_put (cs := #[.int .u32 (Go.bits .andNot .u32 a0 (((ji5) - 1) % 4294967296)), .int .u32 (Go.bits .andNot .u32 a1 (((ji5) - 1) % 4294967296)), .int .i64 0]) ?_ 2 _ (by first | rfl | (simp; done)); (with_reducible repeat (first | refine blk_drewN ?_ _ | refine blk_drew ?_ | refine blk_alloc ?_ _)); refine blk_put (cs := #[.int .u32 (Go.bits .andNot .u32 a0 (((ji5) - 1) % 4294967296)), .int .u32 0, .int .i64 0]) ?_ 1 _ (by first | rfl | (simp; done)); (with_reducible repeat (first | refine blk_drewN ?_ _ | refine blk_drew ?_ | refine blk_alloc ?_ _)); refine blk_put (cs := #[.int .u32 0, .int .u32 0, .int .i64 0]) ?_ 0 _ (by first | rfl | (simp; done)); (with_reducible repeat (first | refine blk_drewN ?_ _ | refine blk_drew ?_ | refine blk_alloc ?_ _)); exact BK108.out) Tryz.underlying41 rfl (by kernel_rfl)) rfl ?_
  exact ⟨by first | rfl | (simp [errW_none, errW_some] <;> rfl) | (simp only [← hji5]; first | rfl | (simp [errW_none, errW_some] <;> rfl)) | (simp [*, errW_none, errW_some] <;> rfl), by repeat (first | (with_reducible first | exact HB.out | apply below_alloc | apply pw_below_drewN | apply below_drew1 | refine below_set ?_ GE108.out) | exact HB.out)⟩
 ·rw [if_neg c4] at H
  exact absurd H (by simp)
def cell_Least.f (a0 : Int) (a1 : Int) (a2 : Int) (a3 : Int) : Option (Int × Int × Int × Int) := if (mx (mx (mx a0 a1) a2) a3) ≥ 2147483648 then (some (0, 0, 0, 2)) else ((bits_Len32.f (Go.bits .or .u32 (Go.bits .xor .u32 a0 a2) (Go.bits .xor .u32 a1 a3))).bind fun t110 => ((cell_around.f a0 a1 t110).bind fun bt111 => ((cell_around.f a2 a3 t110).bind fun bt115 => (if (!(bt111.1 == bt115.1) || (!(bt111.2.1 == bt115.2.1) || (!(bt111.2.2 == bt115.2.2)))) = true then (some (0, 0, 0, 2)) else (some (bt111.1, bt111.2.1, bt111.2.2, 0))))))
set_option maxHeartbeats 8000000 in
set_option maxRecDepth 100000 in
theorem cell_Least.calls (a0 : Int) (a1 : Int) (a2 : Int) (a3 : Int) (r1 : Int) (r2 : Int) (r3 : Int) (r4 : Int) (w : World) (h : cell_Least.f a0 a1 a2 a3 = some (r1, r2, r3, r4)) :
  Calls Tryz.prog 60 #[.int .u32 a0, .int .u32 a1, .int .u32 a2, .int .u32 a3] w fun e w' => e = .returned (.tuple #[.agg #[.int .u32 r1, .int .u32 r2, .int .i64 r3], .int .i64 r4]) ∧ Below w.heap.size w w' := by
 have hu41 := Tryz.underlying41
 have HB := Aside0.mk (Below.refl w.heap.size w)
 have H : (if (mx (mx (mx a0 a1) a2) a3) ≥ 2147483648 then (some (0, 0, 0, 2)) else ((bits_Len32.f (Go.bits .or .u32 (Go.bits .xor .u32 a0 a2) (Go.bits .xor .u32 a1 a3))).bind fun t110 => ((cell_around.f a0 a1 t110).bind fun bt111 => ((cell_around.f a2 a3 t110).bind fun bt115 => (if (!(bt111.1 == bt115.1) || (!(bt111.2.1 == bt115.2.1) || (!(bt111.2.2 == bt115.2.2)))) = true then (some (0, 0, 0, 2)) else (some (bt111.1, bt111.2.1, bt111.2.2, 0))))))) = some (r1, r2, r3, r4) := h
 clear h
 obtain ⟨ji5, hji5⟩ : ∃ j_ : Int, (mx a0 a1) = j_ := ⟨_, rfl⟩
 replace H : (if (mx (mx (ji5) a2) a3) ≥ 2147483648 then (some (0, 0, 0, 2)) else ((bits_Len32.f (Go.bits .or .u32 (Go.bits .xor .u32 a0 a2) (Go.bits .xor .u32 a1 a3))).bind fun t110 => ((cell_around.f a0 a1 t110).bind fun bt111 => ((cell_around.f a2 a3 t110).bind fun bt115 => (if (!(bt111.1 == bt115.1) || (!(bt111.2.1 == bt115.2.1) || (!(bt111.2.2 == bt115.2.2)))) = true then (some (0, 0, 0, 2)) else (some (bt111.1, bt111.2.1, bt111.2.2, 0))))))) = some (r1, r2, r3, r4) := by first | (rw [hji5] at H; exact H) | (simp only [hji5] at H ⊢; exact H)
 have hji5_ : (if a0 < a1 then a1 else a0) = ji5 := hji5
 obtain ⟨ji6, hji6⟩ : ∃ j_ : Int, (mx (ji5) a2) = j_ := ⟨_, rfl⟩
 replace H : (if (mx (ji6) a3) ≥ 2147483648 then (some (0, 0, 0, 2)) else ((bits_Len32.f (Go.bits .or .u32 (Go.bits .xor .u32 a0 a2) (Go.bits .xor .u32 a1 a3))).bind fun t110 => ((cell_around.f a0 a1 t110).bind fun bt111 => ((cell_around.f a2 a3 t110).bind fun bt115 => (if (!(bt111.1 == bt115.1) || (!(bt111.2.1 == bt115.2.1) || (!(bt111.2.2 == bt115.2.2)))) = true then (some (0, 0, 0, 2)) else (some (bt111.1, bt111.2.1, bt111.2.2, 0))))))) = some (r1, r2, r3, r4) := by first | (rw [hji6] at H; exact H) | (simp only [hji6] at H ⊢; exact H)
 have hji6_ : (if (ji5) < a2 then a2 else (ji5)) = ji6 := hji6
 obtain ⟨ji7, hji7⟩ : ∃ j_ : Int, (mx (ji6) a3) = j_ := ⟨_, rfl⟩
 replace H : (if (ji7) ≥ 2147483648 then (some (0, 0, 0, 2)) else ((bits_Len32.f (Go.bits .or .u32 (Go.bits .xor .u32 a0 a2) (Go.bits .xor .u32 a1 a3))).bind fun t110 => ((cell_around.f a0 a1 t110).bind fun bt111 => ((cell_around.f a2 a3 t110).bind fun bt115 => (if (!(bt111.1 == bt115.1) || (!(bt111.2.1 == bt115.2.1) || (!(bt111.2.2 == bt115.2.2)))) = true then (some (0, 0, 0, 2)) else (some (bt111.1, bt111.2.1, bt111.2.2, 0))))))) = some (r1, r2, r3, r4) := by first | (rw [hji7] at H; exact H) | (simp only [hji7] at H ⊢; exact H)
 have hji7_ : (if (ji6) < a3 then a3 else (ji6)) = ji7 := hji7
 by_cases c8 : (ji7) ≥ 2147483648
 ·rw [if_pos c8] at H
  have c8b0 : decide (2147483648 ≤ (ji7)) = true := decide_eq_true c8
  clear c8
  simp only [Option.some.injEq, Prod.mk.injEq] at H
  obtain ⟨rfl, rfl, rfl, rfl⟩ := H
  go_enter Tryz.func60, Tryz.ntmps60
  go_wp2_with (first | ((with_reducible refine gate_dst (N := 8) rfl ?_); refine box_event ?hg (N := 8) ?hd (cs := #[.int .u32 0, .int .u32 0, .int .i64 0]) (t := 41) ?hr ?_; (case hd => rfl); (case hg => rfl); (case hr => first | (go_simp; done) | (go_simp; rfl)); intro gb109 hg w9 hbox hb; have n0_ := Aside0.mk (below_step (by repeat (first | (with_reducible first | exact HB.out | apply below_alloc | apply pw_below_drewN | apply below_drew1) | exact HB.out)) hb); have n1_ := Aside0.mk (hbox); have n2_ := Aside0.mk ((by rw [hg]; exact (below_size (by repeat (first | (with_reducible first | exact HB.out | apply below_alloc | apply pw_below_drewN | apply below_drew1) | exact HB.out))) : w.heap.size ≤ gb109)); have n3_ := Aside0.mk ((by rw [hg]; exact (below_size (by repeat (first | (with_reducible first | exact HB.out | apply below_alloc | apply pw_below_drewN | apply below_drew1) | exact HB.out))) : w.heap.size ≤ gb109)); clear HB; have HB := n0_; have BK109 := n1_; have GW109 := n2_; have GE109 := n3_; clear n0_ n1_ n2_ n3_; clear hb hbox hg; have hcz10_0 : w9.cell? ⟨gb109, 0, none⟩ = some (.int .u32 0) := (blk_cell BK109.out 0).trans rfl; have hcz10_1 : w9.cell? ⟨gb109, 1, none⟩ = some (.int .u32 0) := (blk_cell BK109.out 1).trans rfl; have hcz10_2 : w9.cell? ⟨gb109, 2, none⟩ = some (.int .i64 0) := (blk_cell BK109.out 2).trans rfl; have hfz10_0 := blk_frozen BK109.out 0; have hfz10_1 := blk_frozen BK109.out 1; have hfz10_2 := blk_frozen BK109.out 2))
  refine bodyPost_ret (results_ct rfl _ _ gb109 41 #[.int .u32 0, .int .u32 0, .int .i64 0] (0, 0) _ rfl (by (with_reducible repeat (first | refine blk_drewN ?_ _ | refine blk_drew ?_ | refine blk_alloc ?_ _)); refine blk_put (cs := #[.int .u32 0, .int .u32 0, .int .i64 0]) ?_ 2 _ (by first | rfl | (simp; done)); (with_reducible repeat (first | refine blk_drewN ?_ _ | refine blk_drew ?_ | refine blk_alloc ?_ _)); refine blk_put (cs := #[.int .u32 0, .int .u32 0, .int .i64 0]) ?_ 1 _ (by first | rfl | (simp; done)); (with_reducible repeat (first | refine blk_drewN ?_ _ | refine blk_drew ?_ | refine blk_alloc ?_ _)); refine blk_put (cs := #[.int .u32 0, .int .u32 0, .int .i64 0]) ?_ 0 _ (by first | rfl | (simp; done)); (with_reducible repeat (first | refine blk_drewN ?_ _ | refine blk_drew ?_ | refine blk_alloc ?_ _)); exact BK109.out) Tryz.underlying41 rfl (by kernel_rfl)) rfl ?_
  exact ⟨by first | rfl | (simp [errW_none, errW_some] <;> rfl) | (simp only [← hji5, ← hji6, ← hji7]; first | rfl | (simp [errW_none, errW_some] <;> rfl)) | (simp [*, errW_none, errW_some] <;> rfl), by repeat (first | (with_reducible first | exact HB.out | apply below_alloc | apply pw_below_drewN | apply below_drew1 | refine below_set ?_ GE109.out) | exact HB.out)⟩
 ·rw [if_neg c8] at H
  have c8b0 : decide (2147483648 ≤ (ji7)) = false := decide_eq_false c8
  clear c8
  replace H := Option.bind_eq_some_iff.mp H
  obtain ⟨t110, A110, H⟩ := H
  replace H : ((cell_around.f a0 a1 t110).bind fun bt111 => ((cell_around.f a2 a3 t110).bind fun bt115 => (if (!(bt111.1 == bt115.1) || (!(bt111.2.1 == bt115.2.1) || (!(bt111.2.2 == bt115.2.2)))) = true then (some (0, 0, 0, 2)) else (some (bt111.1, bt111.2.1, bt111.2.2, 0))))) = some (r1, r2, r3, r4) := H
  have A11 := Aside0.mk A110
  clear A110
  replace H := Option.bind_eq_some_iff.mp H
  obtain ⟨⟨t111, t112, t113⟩, A120, H⟩ := H
  replace H : ((cell_around.f a2 a3 t110).bind fun bt115 => (if (!(t111 == bt115.1) || (!(t112 == bt115.2.1) || (!(t113 == bt115.2.2)))) = true then (some (0, 0, 0, 2)) else (some (t111, t112, t113, 0)))) = some (r1, r2, r3, r4) := H
  have A12 := Aside0.mk A120
  clear A120
  replace H := Option.bind_eq_some_iff.mp H
  obtain ⟨⟨t115, t116, t117⟩, A130, H⟩ := H
  replace H : (if (!(t111 == t115) || (!(t112 == t116) || (!(t113 == t117)))) = true then (some (0, 0, 0, 2)) else (some (t111, t112, t113, 0))) = some (r1, r2, r3, r4) := H
  have A13 := Aside0.mk A130
  clear A130
  by_cases c14 : (!(t111 == t115) || (!(t112 == t116) || (!(t113 == t117)))) = true
  ·rw [if_pos c14] at H
   have c14b0 : (!(t111 == t115) || (!(t112 == t116) || (!(t113 == t117)))) = true := c14
   clear c14
   simp only [Option.some.injEq, Prod.mk.injEq] at H
   obtain ⟨rfl, rfl, rfl, rfl⟩ := H
   go_enter Tryz.func60, Tryz.ntmps60
   try go_wp2_with (first | ((with_reducible refine gate_dst (N := 8) rfl ?_); refine box_event ?hg (N := 8) ?hd (cs := #[.int .u32 0, .int .u32 0, .int .i64 0]) (t := 41) ?hr ?_; (case hd => rfl); (case hg => rfl); (case hr => first | (go_simp; done) | (go_simp; rfl)); intro gb109 hg w15 hbox hb; have n0_ := Aside0.mk (below_step (by repeat (first | (with_reducible first | exact HB.out | apply below_alloc | apply pw_below_drewN | apply below_drew1) | exact HB.out)) hb); have n1_ := Aside0.mk (hbox); have n2_ := Aside0.mk ((by rw [hg]; exact (below_size (by repeat (first | (with_reducible first | exact HB.out | apply below_alloc | apply pw_below_drewN | apply below_drew1) | exact HB.out))) : w.heap.size ≤ gb109)); have n3_ := Aside0.mk ((by rw [hg]; exact (below_size (by repeat (first | (with_reducible first | exact HB.out | apply below_alloc | apply pw_below_drewN | apply below_drew1) | exact HB.out))) : w.heap.size ≤ gb109)); clear HB; have HB := n0_; have BK109 := n1_; have GW109 := n2_; have GE109 := n3_; clear n0_ n1_ n2_ n3_; clear hb hbox hg) | ((with_reducible refine gate_callee (f := 74) rfl ?_); refine goesL_ (some 26) rfl rfl Tryz.func74 (by kernel_rfl) rfl #[.int .u32 (Go.bits .or .u32 (Go.bits .xor .u32 a0 a2) (Go.bits .xor .u32 a1 a3))] rfl (by (try simp only [List.map_toArray, List.map_cons, List.map_nil]); first | done | rfl | (simp only [List.length_drop, List.length_take]; rfl)) ?_; (with_reducible refine (bits_Len32.calls (Go.bits .or .u32 (Go.bits .xor .u32 a0 a2) (Go.bits .xor .u32 a1 a3)) t110 _ A11.out).mono ?_); rintro e w' ⟨rfl, ⟨nd, rfl⟩⟩; refine ⟨_, rfl, ?_⟩; (try (rw [drewN_self w15]; generalize hq_ : World.drewN w15 _ = w15; have n0_ : Aside0 (w15.heap[gb109]? = some (.cells #[.int .u32 0, .int .u32 0, .int .i64 0] 41 (0, 0))) := ⟨by rw [← hq_]; exact (by (with_reducible repeat (first | refine blk_drewN ?_ _ | refine blk_drew ?_ | refine blk_alloc ?_ _)); exact BK109.out)⟩; have n1_ : Aside0 (Below w.heap.size w w15) := ⟨by rw [← hq_]; exact (by repeat (first | (with_reducible first | exact HB.out | apply below_alloc | apply pw_below_drewN | apply below_drew1 | refine below_set ?_ GE109.out) | exact HB.out))⟩; clear BK109 HB hq_; have BK109 := n0_; have HB := n1_; clear n0_ n1_))) | ((with_reducible refine gate_callee (f := 75) rfl ?_); refine goesL_ (some 30) rfl rfl Tryz.func75 (by kernel_rfl) rfl #[.int .u32 a0, .int .u32 a1, .int .i64 t110] rfl (by (try simp only [List.map_toArray, List.map_cons, List.map_nil]); first | done | rfl | (simp only [List.length_drop, List.length_take]; rfl)) ?_; (with_reducible refine (cell_around.calls a0 a1 t110 t111 t112 t113 _ A12.out).mono ?_); rintro e w16 ⟨rfl, hb⟩; refine ⟨_, rfl, ?_⟩; have n0_ := Aside0.mk (blk_below (g := gb109) (o := .cells #[.int .u32 0, .int .u32 0, .int .i64 0] 41 (0, 0)) (by (with_reducible repeat (first | refine blk_drewN ?_ _ | refine blk_drew ?_ | refine blk_alloc ?_ _)); exact BK109.out) hb); have n1_ := Aside0.mk (below_step (by repeat (first | (with_reducible first | exact HB.out | apply below_alloc | apply pw_below_drewN | apply below_drew1 | refine below_set ?_ GE109.out) | exact HB.out)) hb); clear BK109; clear HB; have BK109 := n0_; have HB := n1_; clear n0_ n1_; (try clear hb); (try clear hb2); (try clear hk); (try clear hi)) | ((with_reducible refine gate_dst (N := 11) rfl ?_); refine box_event ?hg (N := 11) ?hd (cs := #[.int .u32 0, .int .u32 0, .int .i64 0]) (t := 41) ?hr ?_; (case hd => rfl); (case hg => rfl); (case hr => first | (go_simp; done) | (go_simp; rfl)); intro gb114 hg w17 hbox hb; have n0_ := Aside0.mk (blk_below (g := gb109) (o := .cells #[.int .u32 0, .int .u32 0, .int .i64 0] 41 (0, 0)) (by (with_reducible repeat (first | refine blk_drewN ?_ _ | refine blk_drew ?_ | refine blk_alloc ?_ _)); exact BK109.out) hb); have n1_ := Aside0.mk (below_step (by repeat (first | (with_reducible first | exact HB.out | apply below_alloc | apply pw_below_drewN | apply below_drew1 | refine below_set ?_ GE109.out) | exact HB.out)) hb); have n2_ := Aside0.mk (hbox); have n3_ := Aside0.mk ((by rw [hg]; exact (below_size (by repeat (first | (with_reducible first | exact HB.out | apply below_alloc | apply pw_below_drewN | apply below_drew1 | refine below_set ?_ GE109.out) | exact HB.out))) : w.heap.size ≤ gb114)); have n4_ := Aside0.mk ((by rw [hg]; exact (below_size (by repeat (first | (with_reducible first | exact HB.out | apply below_alloc | apply pw_below_drewN | apply below_drew1 | refine below_set ?_ GE109.out) | exact HB.out))) : w.heap.size ≤ gb114)); have n5_ := Aside0.mk ((by rw [hg]; exact Nat.ne_of_lt (blk_lt (g := gb109) (o := .cells #[.int .u32 0, .int .u32 0, .int .i64 0] 41 (0, 0)) (by (with_reducible repeat (first | refine blk_drewN ?_ _ | refine blk_drew ?_ | refine blk_alloc ?_ _)); exact BK109.out)) : gb109 ≠ gb114)); have n6_ := Aside0.mk ((by rw [hg]; exact Nat.ne_of_gt (blk_lt (g := gb109) (o := .cells #[.int .u32 0, .int .u32 0, .int .i64 0] 41 (0, 0)) (by (with_reducible repeat (first | refine blk_drewN ?_ _ | refine blk_drew ?_ | refine blk_alloc ?_ _)); exact BK109.out)) : gb114 ≠ gb109)); clear BK109; clear HB; have BK109 := n0_; have HB := n1_; have BK114 := n2_; have GW114 := n3_; have GE114 := n4_; have NB109_114 := n5_; have NB114_109 := n6_; clear n0_ n1_ n2_ n3_ n4_ n5_ n6_; clear hb hbox hg; have hnb18 := NB114_109.out; have hnc18 := NB109_114.out; have hcz19_0 : w17.cell? ⟨gb114, 0, none⟩ = some (.int .u32 0) := (blk_cell BK114.out 0).trans rfl; have hcz19_1 : w17.cell? ⟨gb114, 1, none⟩ = some (.int .u32 0) := (blk_cell BK114.out 1).trans rfl; have hcz19_2 : w17.cell? ⟨gb114, 2, none⟩ = some (.int .i64 0) := (blk_cell BK114.out 2).trans rfl; have hfz19_0 := blk_frozen BK114.out 0; have hfz19_1 := blk_frozen BK114.out 1; have hfz19_2 := blk_frozen BK114.out 2))
   have n0_ : Aside0 ((((w17.setCell ⟨gb114, 0, none⟩ (.int .u32 t111)).setCell ⟨gb114, 1, none⟩ (.int .u32 t112)).setCell ⟨gb114, 2, none⟩ (.int .i64 t113)).heap[gb109]? = some (.cells #[.int .u32 0, .int .u32 0, .int .i64 0] 41 (0, 0))) := ⟨by (with_reducible repeat (first | refine blk_drewN ?_ _ | refine blk_drew ?_ | refine blk_alloc ?_ _)); refine blk_far ?_ NB109_114.out _; (with_reducible repeat (first | refine blk_drewN ?_ _ | refine blk_drew ?_ | refine blk_alloc ?_ _)); refine blk_far ?_ NB109_114.out _; (with_reducible repeat (first | refine blk_drewN ?_ _ | refine blk_drew ?_ | refine blk_alloc ?_ _)); refine blk_far ?_ NB109_114.out _; (with_reducible repeat (first | refine blk_drewN ?_ _ | refine blk_drew ?_ | refine blk_alloc ?_ _)); exact BK109.out⟩
   have n1_ : Aside0 ((((w17.setCell ⟨gb114, 0, none⟩ (.int .u32 t111)).setCell ⟨gb114, 1, none⟩ (.int .u32 t112)).setCell ⟨gb114, 2, none⟩ (.int .i64 t113)).heap[gb114]? = some (.cells #[.int .u32 t111, .int .u32 t112, .int .i64 t113] 41 (0, 0))) := ⟨by (with_reducible repeat (first | refine blk_drewN ?_ _ | refine blk_drew ?_ | refine blk_alloc ?_ _)); refine blk_put (cs := #[.int .u32 t111, .int .u32 t112, .int .i64 0]) ?_ 2 _ (by first | rfl | (simp; done)); (with_reducible repeat (first | refine blk_drewN ?_ _ | refine blk_drew ?_ | refine blk_alloc ?_ _)); refine blk_put (cs := #[.int .u32 t111, .int .u32 0, .int .i64 0]) ?_ 1 _ (by first | rfl | (simp; done)); (with_reducible repeat (first | refine blk_drewN ?_ _ | refine blk_drew ?_ | refine blk_alloc ?_ _)); refine blk_put (cs := #[.int .u32 0, .int .u32 0, .int .i64 0]) ?_ 0 _ (by first | rfl | (simp; done)); (with_reducible repeat (first | refine blk_drewN ?_ _ | refine blk_drew ?_ | refine blk_alloc ?_ _)); exact BK114.out⟩
   have n2_ : Aside0 (Below w.heap.size w (((w17.setCell ⟨gb114, 0, none⟩ (.int .u32 t111)).setCell ⟨gb114, 1, none⟩ (.int .u32 t112)).setCell ⟨gb114, 2, none⟩ (.int .i64 t113))) := ⟨by repeat (first | (with_reducible first | exact HB.out | apply below_alloc | apply pw_below_drewN | apply below_drew1 | refine below_set ?_ GE109.out | refine below_set ?_ GE114.out) | exact HB.out)⟩
   (try clear BK109)
   (try clear BK114)
   (try clear HB)
   generalize (((w17.setCell ⟨gb114, 0, none⟩ (.int .u32 t111)).setCell ⟨gb114, 1, none⟩ (.int .u32 t112)).setCell ⟨gb114, 2, none⟩ (.int .i64 t113)) = w20 at n0_ n1_ n2_ ⊢
   have BK109 := n0_
   have BK114 := n1_
   have HB := n2_
   clear n0_ n1_ n2_
   have n0_ := Aside0.mk (blk_drew BK109.out)
   have n1_ := Aside0.mk (blk_drew BK114.out)
   have n2_ := Aside0.mk (below_drew1 HB.out)
   clear BK109
   clear BK114
   clear HB
   have BK109 := n0_
   have BK114 := n1_
   have HB := n2_
   clear n0_ n1_ n2_
   refine start_ (n := 6) (S := fun w' => w'.cell? ⟨gb114, 0, none⟩ = some (.int .u32 t111) ∧ w'.cell? ⟨gb114, 1, none⟩ = some (.int .u32 t112) ∧ w'.cell? ⟨gb114, 2, none⟩ = some (.int .i64 t113)) (ds := []) #[false, false, false, false, false, false] (by kernel_rfl) rfl rfl ⟨(blk_cell BK114.out 0).trans rfl, (blk_cell BK114.out 1).trans rfl, (blk_cell BK114.out 2).trans rfl⟩ (fun hHeld => ?_)
   generalize w20.drew = w21 at BK109 BK114 HB hHeld ⊢
   refine pure_ (i := 1) (N := some 32) (v := ?_) (a' := ?_) #[false, true, false, false, false, false] rfl rfl (by kernel_rfl) (fun _ _ _ h => h) (Or.inl ⟨by rfl, ?_⟩) ?_ ?_
   rotate_left
   ·intro w'
    go_simp
    with_reducible rfl
   rotate_left
   ·simp only [Act.put, List.setIfInBounds_toArray, List.set_cons_zero, List.set_cons_succ, i64_w, i32_w]
    rfl
   refine pure_ (i := 2) (N := some 33) (v := ?_) (a' := ?_) #[false, true, true, false, false, false] rfl rfl (by kernel_rfl) (fun _ _ _ h => h) (Or.inl ⟨by rfl, ?_⟩) ?_ ?_
   rotate_left
   ·intro w'
    go_simp
    with_reducible rfl
   rotate_left
   ·simp only [Act.put, List.setIfInBounds_toArray, List.set_cons_zero, List.set_cons_succ, i64_w, i32_w]
    rfl
   refine pure_ (i := 3) (N := some 34) (v := ?_) (a' := ?_) #[false, true, true, true, false, false] rfl rfl (by kernel_rfl) (fun _ _ _ h => h) (Or.inl ⟨by rfl, ?_⟩) ?_ ?_
   rotate_left
   ·intro w'
    go_simp
    with_reducible rfl
   rotate_left
   ·simp only [Act.put, List.setIfInBounds_toArray, List.set_cons_zero, List.set_cons_succ, i64_w, i32_w]
    rfl
   refine take_ (i := 0) (N := some 31) (v := ?_) (a' := ?_) #[true, true, true, true, false, false] rfl rfl (by kernel_rfl) (fun _ _ _ h => h) (Or.inl ⟨by rfl, ?_⟩) hHeld ?_ ?_
   rotate_left
   ·rintro w' ⟨s0, s1, s2⟩
    go_simp
    with_reducible rfl
   rotate_left
   ·simp only [Act.put, List.setIfInBounds_toArray, List.set_cons_zero, List.set_cons_succ, i64_w, i32_w]
    rfl
   refine one_ (i := 4) (N := some 35) #[true, true, true, true, true, false] rfl rfl (by kernel_rfl) (by decide) (fun K hK => ?_)
   refine goes_ Tryz.func75 (by kernel_rfl) rfl #[.int .u32 a2, .int .u32 a3, .int .i64 t110] (by rfl) rfl rfl (by (try simp only [List.map_toArray, List.map_cons, List.map_nil]); first | done | rfl | (simp only [List.length_drop, List.length_take]; rfl)) ?_
   with_reducible refine (cell_around.calls a2 a3 t110 t115 t116 t117 _ A13.out).mono ?_
   rintro e w22 ⟨rfl, hb⟩
   refine ⟨_, rfl, ?_⟩
   have n0_ := Aside0.mk (blk_below (g := gb109) (o := .cells #[.int .u32 0, .int .u32 0, .int .i64 0] 41 (0, 0)) (by (with_reducible repeat (first | refine blk_drewN ?_ _ | refine blk_drew ?_ | refine blk_alloc ?_ _)); exact BK109.out) hb)
   have n1_ := Aside0.mk (blk_below (g := gb114) (o := .cells #[.int .u32 t111, .int .u32 t112, .int .i64 t113] 41 (0, 0)) (by (with_reducible repeat (first | refine blk_drewN ?_ _ | refine blk_drew ?_ | refine blk_alloc ?_ _)); exact BK114.out) hb)
   have n2_ := Aside0.mk (below_step (by repeat (first | (with_reducible first | exact HB.out | apply below_alloc | apply pw_below_drewN | apply below_drew1 | refine below_set ?_ GE109.out | refine below_set ?_ GE114.out) | exact HB.out)) hb)
   clear BK109
   clear BK114
   clear HB
   have BK109 := n0_
   have BK114 := n1_
   have HB := n2_
   clear n0_ n1_ n2_
   (try clear hb)
   (try clear hb2)
   (try clear hk)
   (try clear hi)
   refine hK.out _ _ ⟨(blk_cell BK114.out 0).trans rfl, (blk_cell BK114.out 1).trans rfl, (blk_cell BK114.out 2).trans rfl⟩ (fun hHeld => ?_)
   clear hK K
   refine norm_ (a' := ?_) ?_ ?_
   rotate_left
   ·show Act.put _ (some 35) _ = _
    simp only [Act.put, List.setIfInBounds_toArray, List.set_cons_zero, List.set_cons_succ, i64_w, i32_w]
    rfl
   refine pure_ (i := 5) (N := some 36) (v := ?_) (a' := ?_) #[true, true, true, true, true, true] rfl rfl (by kernel_rfl) (fun _ _ _ h => h) (Or.inl ⟨by rfl, ?_⟩) ?_ ?_
   rotate_left
   ·intro w'
    go_simp
    with_reducible rfl
   rotate_left
   ·simp only [Act.put, List.setIfInBounds_toArray, List.set_cons_zero, List.set_cons_succ, i64_w, i32_w]
    rfl
   refine done_ (by kernel_rfl) ?_
   have hcz23_0 : w22.cell? ⟨gb109, 0, none⟩ = some (.int .u32 0) := (blk_cell BK109.out 0).trans rfl
   have hcz23_1 : w22.cell? ⟨gb109, 1, none⟩ = some (.int .u32 0) := (blk_cell BK109.out 1).trans rfl
   have hcz23_2 : w22.cell? ⟨gb109, 2, none⟩ = some (.int .i64 0) := (blk_cell BK109.out 2).trans rfl
   have hfz23_0 := blk_frozen BK109.out 0
   have hfz23_1 := blk_frozen BK109.out 1
   have hfz23_2 := blk_frozen BK109.out 2
   try go_wp2
   refine bodyPost_ret (results_ct rfl _ _ gb109 41 #[.int .u32 0, .int .u32 0, .int .i64 0] (0, 0) _ rfl (by (with_reducible repeat (first | refine blk_drewN ?_ _ | refine blk_drew ?_ | refine blk_alloc ?_ _)); refine blk_put (cs := #[.int .u32 0, .int .u32 0, .int .i64 0]) ?_ 2 _ (by first | rfl | (simp; done)); (with_reducible repeat (first | refine blk_drewN ?_ _ | refine blk_drew ?_ | refine blk_alloc ?_ _)); refine blk_put (cs := #[.int .u32 0, .int .u32 0, .int .i64 0]) ?_ 1 _ (by first | rfl | (simp; done)); (with_reducible repeat (first | refine blk_drewN ?_ _ | refine blk_drew ?_ | refine blk_alloc ?_ _)); refine blk_put (cs := #[.int .u32 0, .int .u32 0, .int .i64 0]) ?_ 0 _ (by first | rfl | (simp; done)); (with_reducible repeat (first | refine blk_drewN ?_ _ | refine blk_drew ?_ | refine blk_alloc ?_ _)); exact BK109.out) Tryz.underlying41 rfl (by kernel_rfl)) rfl ?_
   exact ⟨by first | rfl | (simp [errW_none, errW_some] <;> rfl) | (simp only [← hji5, ← hji6, ← hji7]; first | rfl | (simp [errW_none, errW_some] <;> rfl)) | (simp [*, errW_none, errW_some] <;> rfl), by repeat (first | (with_reducible first | exact HB.out | apply below_alloc | apply pw_below_drewN | apply below_drew1 | refine below_set ?_ GE109.out | refine below_set ?_ GE114.out) | exact HB.out)⟩
  ·rw [if_neg c14] at H
   have c14b0 : (!(t111 == t115) || (!(t112 == t116) || (!(t113 == t117)))) = false := by simpa using c14
   clear c14
   simp only [Option.some.injEq, Prod.mk.injEq] at H
   obtain ⟨rfl, rfl, rfl, rfl⟩ := H
   go_enter Tryz.func60, Tryz.ntmps60
   try go_wp2_with (first | ((with_reducible refine gate_dst (N := 8) rfl ?_); refine box_event ?hg (N := 8) ?hd (cs := #[.int .u32 0, .int .u32 0, .int .i64 0]) (t := 41) ?hr ?_; (case hd => rfl); (case hg => rfl); (case hr => first | (go_simp; done) | (go_simp; rfl)); intro gb109 hg w24 hbox hb; have n0_ := Aside0.mk (below_step (by repeat (first | (with_reducible first | exact HB.out | apply below_alloc | apply pw_below_drewN | apply below_drew1) | exact HB.out)) hb); have n1_ := Aside0.mk (hbox); have n2_ := Aside0.mk ((by rw [hg]; exact (below_size (by repeat (first | (with_reducible first | exact HB.out | apply below_alloc | apply pw_below_drewN | apply below_drew1) | exact HB.out))) : w.heap.size ≤ gb109)); have n3_ := Aside0.mk ((by rw [hg]; exact (below_size (by repeat (first | (with_reducible first | exact HB.out | apply below_alloc | apply pw_below_drewN | apply below_drew1) | exact HB.out))) : w.heap.size ≤ gb109)); clear HB; have HB := n0_; have BK109 := n1_; have GW109 := n2_; have GE109 := n3_; clear n0_ n1_ n2_ n3_; clear hb hbox hg) | ((with_reducible refine gate_callee (f := 74) rfl ?_); refine goesL_ (some 26) rfl rfl Tryz.func74 (by kernel_rfl) rfl #[.int .u32 (Go.bits .or .u32 (Go.bits .xor .u32 a0 a2) (Go.bits .xor .u32 a1 a3))] rfl (by (try simp only [List.map_toArray, List.map_cons, List.map_nil]); first | done | rfl | (simp only [List.length_drop, List.length_take]; rfl)) ?_; (with_reducible refine (bits_Len32.calls (Go.bits .or .u32 (Go.bits .xor .u32 a0 a2) (Go.bits .xor .u32 a1 a3)) t110 _ A11.out).mono ?_); rintro e w' ⟨rfl, ⟨nd, rfl⟩⟩; refine ⟨_, rfl, ?_⟩; (try (rw [drewN_self w24]; generalize hq_ : World.drewN w24 _ = w24; have n0_ : Aside0 (w24.heap[gb109]? = some (.cells #[.int .u32 0, .int .u32 0, .int .i64 0] 41 (0, 0))) := ⟨by rw [← hq_]; exact (by (with_reducible repeat (first | refine blk_drewN ?_ _ | refine blk_drew ?_ | refine blk_alloc ?_ _)); exact BK109.out)⟩; have n1_ : Aside0 (Below w.heap.size w w24) := ⟨by rw [← hq_]; exact (by repeat (first | (with_reducible first | exact HB.out | apply below_alloc | apply pw_below_drewN | apply below_drew1 | refine below_set ?_ GE109.out) | exact HB.out))⟩; clear BK109 HB hq_; have BK109 := n0_; have HB := n1_; clear n0_ n1_))) | ((with_reducible refine gate_callee (f := 75) rfl ?_); refine goesL_ (some 30) rfl rfl Tryz.func75 (by kernel_rfl) rfl #[.int .u32 a0, .int .u32 a1, .int .i64 t110] rfl (by (try simp only [List.map_toArray, List.map_cons, List.map_nil]); first | done | rfl | (simp only [List.length_drop, List.length_take]; rfl)) ?_; (with_reducible refine (cell_around.calls a0 a1 t110 t111 t112 t113 _ A12.out).mono ?_); rintro e w25 ⟨rfl, hb⟩; refine ⟨_, rfl, ?_⟩; have n0_ := Aside0.mk (blk_below (g := gb109) (o := .cells #[.int .u32 0, .int .u32 0, .int .i64 0] 41 (0, 0)) (by (with_reducible repeat (first | refine blk_drewN ?_ _ | refine blk_drew ?_ | refine blk_alloc ?_ _)); exact BK109.out) hb); have n1_ := Aside0.mk (below_step (by repeat (first | (with_reducible first | exact HB.out | apply below_alloc | apply pw_below_drewN | apply below_drew1 | refine below_set ?_ GE109.out) | exact HB.out)) hb); clear BK109; clear HB; have BK109 := n0_; have HB := n1_; clear n0_ n1_; (try clear hb); (try clear hb2); (try clear hk); (try clear hi)) | ((with_reducible refine gate_dst (N := 11) rfl ?_); refine box_event ?hg (N := 11) ?hd (cs := #[.int .u32 0, .int .u32 0, .int .i64 0]) (t := 41) ?hr ?_; (case hd => rfl); (case hg => rfl); (case hr => first | (go_simp; done) | (go_simp; rfl)); intro gb114 hg w26 hbox hb; have n0_ := Aside0.mk (blk_below (g := gb109) (o := .cells #[.int .u32 0, .int .u32 0, .int .i64 0] 41 (0, 0)) (by (with_reducible repeat (first | refine blk_drewN ?_ _ | refine blk_drew ?_ | refine blk_alloc ?_ _)); exact BK109.out) hb); have n1_ := Aside0.mk (below_step (by repeat (first | (with_reducible first | exact HB.out | apply below_alloc | apply pw_below_drewN | apply below_drew1 | refine below_set ?_ GE109.out) | exact HB.out)) hb); have n2_ := Aside0.mk (hbox); have n3_ := Aside0.mk ((by rw [hg]; exact (below_size (by repeat (first | (with_reducible first | exact HB.out | apply below_alloc | apply pw_below_drewN | apply below_drew1 | refine below_set ?_ GE109.out) | exact HB.out))) : w.heap.size ≤ gb114)); have n4_ := Aside0.mk ((by rw [hg]; exact (below_size (by repeat (first | (with_reducible first | exact HB.out | apply below_alloc | apply pw_below_drewN | apply below_drew1 | refine below_set ?_ GE109.out) | exact HB.out))) : w.heap.size ≤ gb114)); have n5_ := Aside0.mk ((by rw [hg]; exact Nat.ne_of_lt (blk_lt (g := gb109) (o := .cells #[.int .u32 0, .int .u32 0, .int .i64 0] 41 (0, 0)) (by (with_reducible repeat (first | refine blk_drewN ?_ _ | refine blk_drew ?_ | refine blk_alloc ?_ _)); exact BK109.out)) : gb109 ≠ gb114)); have n6_ := Aside0.mk ((by rw [hg]; exact Nat.ne_of_gt (blk_lt (g := gb109) (o := .cells #[.int .u32 0, .int .u32 0, .int .i64 0] 41 (0, 0)) (by (with_reducible repeat (first | refine blk_drewN ?_ _ | refine blk_drew ?_ | refine blk_alloc ?_ _)); exact BK109.out)) : gb114 ≠ gb109)); clear BK109; clear HB; have BK109 := n0_; have HB := n1_; have BK114 := n2_; have GW114 := n3_; have GE114 := n4_; have NB109_114 := n5_; have NB114_109 := n6_; clear n0_ n1_ n2_ n3_ n4_ n5_ n6_; clear hb hbox hg; have hnb27 := NB114_109.out; have hnc27 := NB109_114.out; have hcz28_0 : w26.cell? ⟨gb114, 0, none⟩ = some (.int .u32 0) := (blk_cell BK114.out 0).trans rfl; have hcz28_1 : w26.cell? ⟨gb114, 1, none⟩ = some (.int .u32 0) := (blk_cell BK114.out 1).trans rfl; have hcz28_2 : w26.cell? ⟨gb114, 2, none⟩ = some (.int .i64 0) := (blk_cell BK114.out 2).trans rfl; have hfz28_0 := blk_frozen BK114.out 0; have hfz28_1 := blk_frozen BK114.out 1; have hfz28_2 := blk_frozen BK114.out 2))
   have n0_ : Aside0 ((((w26.setCell ⟨gb114, 0, none⟩ (.int .u32 t111)).setCell ⟨gb114, 1, none⟩ (.int .u32 t112)).setCell ⟨gb114, 2, none⟩ (.int .i64 t113)).heap[gb109]? = some (.cells #[.int .u32 0, .int .u32 0, .int .i64 0] 41 (0, 0))) := ⟨by (with_reducible repeat (first | refine blk_drewN ?_ _ | refine blk_drew ?_ | refine blk_alloc ?_ _)); refine blk_far ?_ NB109_114.out _; (with_reducible repeat (first | refine blk_drewN ?_ _ | refine blk_drew ?_ | refine blk_alloc ?_ _)); refine blk_far ?_ NB109_114.out _; (with_reducible repeat (first | refine blk_drewN ?_ _ | refine blk_drew ?_ | refine blk_alloc ?_ _)); refine blk_far ?_ NB109_114.out _; (with_reducible repeat (first | refine blk_drewN ?_ _ | refine blk_drew ?_ | refine blk_alloc ?_ _)); exact BK109.out⟩
   have n1_ : Aside0 ((((w26.setCell ⟨gb114, 0, none⟩ (.int .u32 t111)).setCell ⟨gb114, 1, none⟩ (.int .u32 t112)).setCell ⟨gb114, 2, none⟩ (.int .i64 t113)).heap[gb114]? = some (.cells #[.int .u32 t111, .int .u32 t112, .int .i64 t113] 41 (0, 0))) := ⟨by (with_reducible repeat (first | refine blk_drewN ?_ _ | refine blk_drew ?_ | refine blk_alloc ?_ _)); refine blk_put (cs := #[.int .u32 t111, .int .u32 t112, .int .i64 0]) ?_ 2 _ (by first | rfl | (simp; done)); (with_reducible repeat (first | refine blk_drewN ?_ _ | refine blk_drew ?_ | refine blk_alloc ?_ _)); refine blk_put (cs := #[.int .u32 t111, .int .u32 0, .int .i64 0]) ?_ 1 _ (by first | rfl | (simp; done)); (with_reducible repeat (first | refine blk_drewN ?_ _ | refine blk_drew ?_ | refine blk_alloc ?_ _)); refine blk_put (cs := #[.int .u32 0, .int .u32 0, .int .i64 0]) ?_ 0 _ (by first | rfl | (simp; done)); (with_reducible repeat (first | refine blk_drewN ?_ _ | refine blk_drew ?_ | refine blk_alloc ?_ _)); exact BK114.out⟩
   have n2_ : Aside0 (Below w.heap.size w (((w26.setCell ⟨gb114, 0, none⟩ (.int .u32 t111)).setCell ⟨gb114, 1, none⟩ (.int .u32 t112)).setCell ⟨gb114, 2, none⟩ (.int .i64 t113))) := ⟨by repeat (first | (with_reducible first | exact HB.out | apply below_alloc | apply pw_below_drewN | apply below_drew1 | refine below_set ?_ GE109.out | refine below_set ?_ GE114.out) | exact HB.out)⟩
   (try clear BK109)
   (try clear BK114)
   (try clear HB)
   generalize (((w26.setCell ⟨gb114, 0, none⟩ (.int .u32 t111)).setCell ⟨gb114, 1, none⟩ (.int .u32 t112)).setCell ⟨gb114, 2, none⟩ (.int .i64 t113)) = w29 at n0_ n1_ n2_ ⊢
   have BK109 := n0_
   have BK114 := n1_
   have HB := n2_
   clear n0_ n1_ n2_
   have n0_ := Aside0.mk (blk_drew BK109.out)
   have n1_ := Aside0.mk (blk_drew BK114.out)
   have n2_ := Aside0.mk (below_drew1 HB.out)
   clear BK109
   clear BK114
   clear HB
   have BK109 := n0_
   have BK114 := n1_
   have HB := n2_
   clear n0_ n1_ n2_
   refine start_ (n := 6) (S := fun w' => w'.cell? ⟨gb114, 0, none⟩ = some (.int .u32 t111) ∧ w'.cell? ⟨gb114, 1, none⟩ = some (.int .u32 t112) ∧ w'.cell? ⟨gb114, 2, none⟩ = some (.int .i64 t113)) (ds := []) #[false, false, false, false, false, false] (by kernel_rfl) rfl rfl ⟨(blk_cell BK114.out 0).trans rfl, (blk_cell BK114.out 1).trans rfl, (blk_cell BK114.out 2).trans rfl⟩ (fun hHeld => ?_)
   generalize w29.drew = w30 at BK109 BK114 HB hHeld ⊢
   refine pure_ (i := 1) (N := some 32) (v := ?_) (a' := ?_) #[false, true, false, false, false, false] rfl rfl (by kernel_rfl) (fun _ _ _ h => h) (Or.inl ⟨by rfl, ?_⟩) ?_ ?_
   rotate_left
   ·intro w'
    go_simp
    with_reducible rfl
   rotate_left
   ·simp only [Act.put, List.setIfInBounds_toArray, List.set_cons_zero, List.set_cons_succ, i64_w, i32_w]
    rfl
   refine pure_ (i := 2) (N := some 33) (v := ?_) (a' := ?_) #[false, true, true, false, false, false] rfl rfl (by kernel_rfl) (fun _ _ _ h => h) (Or.inl ⟨by rfl, ?_⟩) ?_ ?_
   rotate_left
   ·intro w'
    go_simp
    with_reducible rfl
   rotate_left
   ·simp only [Act.put, List.setIfInBounds_toArray, List.set_cons_zero, List.set_cons_succ, i64_w, i32_w]
    rfl
   refine pure_ (i := 3) (N := some 34) (v := ?_) (a' := ?_) #[false, true, true, true, false, false] rfl rfl (by kernel_rfl) (fun _ _ _ h => h) (Or.inl ⟨by rfl, ?_⟩) ?_ ?_
   rotate_left
   ·intro w'
    go_simp
    with_reducible rfl
   rotate_left
   ·simp only [Act.put, List.setIfInBounds_toArray, List.set_cons_zero, List.set_cons_succ, i64_w, i32_w]
    rfl
   refine take_ (i := 0) (N := some 31) (v := ?_) (a' := ?_) #[true, true, true, true, false, false] rfl rfl (by kernel_rfl) (fun _ _ _ h => h) (Or.inl ⟨by rfl, ?_⟩) hHeld ?_ ?_
   rotate_left
   ·rintro w' ⟨s0, s1, s2⟩
    go_simp
    with_reducible rfl
   rotate_left
   ·simp only [Act.put, List.setIfInBounds_toArray, List.set_cons_zero, List.set_cons_succ, i64_w, i32_w]
    rfl
   refine one_ (i := 4) (N := some 35) #[true, true, true, true, true, false] rfl rfl (by kernel_rfl) (by decide) (fun K hK => ?_)
   refine goes_ Tryz.func75 (by kernel_rfl) rfl #[.int .u32 a2, .int .u32 a3, .int .i64 t110] (by rfl) rfl rfl (by (try simp only [List.map_toArray, List.map_cons, List.map_nil]); first | done | rfl | (simp only [List.length_drop, List.length_take]; rfl)) ?_
   with_reducible refine (cell_around.calls a2 a3 t110 t115 t116 t117 _ A13.out).mono ?_
   rintro e w31 ⟨rfl, hb⟩
   refine ⟨_, rfl, ?_⟩
   have n0_ := Aside0.mk (blk_below (g := gb109) (o := .cells #[.int .u32 0, .int .u32 0, .int .i64 0] 41 (0, 0)) (by (with_reducible repeat (first | refine blk_drewN ?_ _ | refine blk_drew ?_ | refine blk_alloc ?_ _)); exact BK109.out) hb)
   have n1_ := Aside0.mk (blk_below (g := gb114) (o := .cells #[.int .u32 t111, .int .u32 t112, .int .i64 t113] 41 (0, 0)) (by (with_reducible repeat (first | refine blk_drewN ?_ _ | refine blk_drew ?_ | refine blk_alloc ?_ _)); exact BK114.out) hb)
   have n2_ := Aside0.mk (below_step (by repeat (first | (with_reducible first | exact HB.out | apply below_alloc | apply pw_below_drewN | apply below_drew1 | refine below_set ?_ GE109.out | refine below_set ?_ GE114.out) | exact HB.out)) hb)
   clear BK109
   clear BK114
   clear HB
   have BK109 := n0_
   have BK114 := n1_
   have HB := n2_
   clear n0_ n1_ n2_
   (try clear hb)
   (try clear hb2)
   (try clear hk)
   (try clear hi)
   refine hK.out _ _ ⟨(blk_cell BK114.out 0).trans rfl, (blk_cell BK114.out 1).trans rfl, (blk_cell BK114.out 2).trans rfl⟩ (fun hHeld => ?_)
   clear hK K
   refine norm_ (a' := ?_) ?_ ?_
   rotate_left
   ·show Act.put _ (some 35) _ = _
    simp only [Act.put, List.setIfInBounds_toArray, List.set_cons_zero, List.set_cons_succ, i64_w, i32_w]
    rfl
   refine pure_ (i := 5) (N := some 36) (v := ?_) (a' := ?_) #[true, true, true, true, true, true] rfl rfl (by kernel_rfl) (fun _ _ _ h => h) (Or.inl ⟨by rfl, ?_⟩) ?_ ?_
   rotate_left
   ·intro w'
    go_simp
    with_reducible rfl
   rotate_left
   ·simp only [Act.put, List.setIfInBounds_toArray, List.set_cons_zero, List.set_cons_succ, i64_w, i32_w]
    rfl
   refine done_ (by kernel_rfl) ?_
   have hcz32_0 : w31.cell? ⟨gb114, 0, none⟩ = some (.int .u32 t111) := (blk_cell BK114.out 0).trans rfl
   have hcz32_1 : w31.cell? ⟨gb114, 1, none⟩ = some (.int .u32 t112) := (blk_cell BK114.out 1).trans rfl
   have hcz32_2 : w31.cell? ⟨gb114, 2, none⟩ = some (.int .i64 t113) := (blk_cell BK114.out 2).trans rfl
   have hfz32_0 := blk_frozen BK114.out 0
   have hfz32_1 := blk_frozen BK114.out 1
   have hfz32_2 := blk_frozen BK114.out 2
   have hcz33_0 : w31.cell? ⟨gb109, 0, none⟩ = some (.int .u32 0) := (blk_cell BK109.out 0).trans rfl
   have hcz33_1 : w31.cell? ⟨gb109, 1, none⟩ = some (.int .u32 0) := (blk_cell BK109.out 1).trans rfl
   have hcz33_2 : w31.cell? ⟨gb109, 2, none⟩ = some (.int .i64 0) := (blk_cell BK109.out 2).trans rfl
   have hfz33_0 := blk_frozen BK109.out 0
   have hfz33_1 := blk_frozen BK109.out 1
   have hfz33_2 := blk_frozen BK109.out 2
   try go_wp2
   refine bodyPost_ret (results_ct rfl _ _ gb109 41 #[.int .u32 t111, .int .u32 t112, .int .i64 t113] (0, 0) _ rfl (by (with_reducible repeat (first | refine blk_drewN ?_ _ | refine blk_drew ?_ | refine blk_alloc ?_ _)); refine blk_put (cs := #[.int .u32 t111, .int .u32 t112, .int .i64 0]) ?_ 2 _ (by first | rfl | (simp; done)); (with_reducible repeat (first | refine blk_drewN ?_ _ | refine blk_drew ?_ | refine blk_alloc ?_ _)); refine blk_put (cs := #[.int .u32 t111, .int .u32 0, .int .i64 0]) ?_ 1 _ (by first | rfl | (simp; done)); (with_reducible repeat (first | refine blk_drewN ?_ _ | refine blk_drew ?_ | refine blk_alloc ?_ _)); refine blk_put (cs := #[.int .u32 0, .int .u32 0, .int .i64 0]) ?_ 0 _ (by first | rfl | (simp; done)); (with_reducible repeat (first | refine blk_drewN ?_ _ | refine blk_drew ?_ | refine blk_alloc ?_ _)); exact BK109.out) Tryz.underlying41 rfl (by kernel_rfl)) rfl ?_
   exact ⟨by first | rfl | (simp [errW_none, errW_some] <;> rfl) | (simp only [← hji5, ← hji6, ← hji7]; first | rfl | (simp [errW_none, errW_some] <;> rfl)) | (simp [*, errW_none, errW_some] <;> rfl), by repeat (first | (with_reducible first | exact HB.out | apply below_alloc | apply pw_below_drewN | apply below_drew1 | refine below_set ?_ GE109.out | refine below_set ?_ GE114.out) | exact HB.out)⟩
def quad_around.l0 : Nat → Int → Int → Int → Int → List (S37) → Int → Int → Option (Int × Int × Int)
 | 0, _, _, _, _, _, _, _ => none
 | k + 1, x3, x4, x5, x6, x27, x28, x29 => if x29 < x28 then (if 0 ≤ x29 then (if x29 < (x27.length : Int) then (quad_around.l0 k (mn x3 ((rd_T37 x27 x29).f1)) (mn x4 ((rd_T37 x27 x29).f2)) (mx x5 ((rd_T37 x27 x29).f1)) (mx x6 ((rd_T37 x27 x29).f2)) x27 x28 (wrap64 (x29 + 1))) else (none)) else (none)) else ((cell_Least.f x3 x4 x5 x6).bind fun bt125 => (some (bt125.1, bt125.2.1, bt125.2.2.1)))
def quad_around.f (k : Nat) (l0 : List (S37)) : Option (Int × Int × Int) := if 0 < (l0.length : Int) then (quad_around.l0 k ((rd_T37 l0 0).f1) ((rd_T37 l0 0).f2) ((rd_T37 l0 0).f1) ((rd_T37 l0 0).f2) l0 (l0.length : Int) 0) else (none)
theorem quad_around.mono_l : ∀ k, (∀ y0 y1 y2 y3 y4 y5 y6, LeO (quad_around.l0 k y0 y1 y2 y3 y4 y5 y6) (quad_around.l0 (k + 1) y0 y1 y2 y3 y4 y5 y6))
 | 0 => fun _ _ _ _ _ _ _ r h => by simp [quad_around.l0] at h
 | k + 1 => by
  have ih0 := quad_around.mono_l k
  ·intro y0 y1 y2 y3 y4 y5 y6
   unfold quad_around.l0
   repeat' first
   | (with_reducible exact ih0 _ _ _ _ _ _ _)
   | (with_reducible exact LeO.refl _)
   | (with_reducible exact LeO.none _)
   | (with_reducible refine LeO.ite ?_ ?_)
   | (with_reducible refine LeO.bind ?_ (fun _ => ?_))
   | exact ih0 _ _ _ _ _ _ _
   | exact LeO.none _
   | refine LeO.ite ?_ ?_
   | refine LeO.bind ?_ (fun _ => ?_)
theorem quad_around.mono : ∀ a0 k, LeO (quad_around.f k a0) (quad_around.f (k + 1) a0) := by
 intro a0 k
 have ih0 := quad_around.mono_l k
 unfold quad_around.f
 repeat' first
   | (with_reducible exact ih0 _ _ _ _ _ _ _)
   | (with_reducible exact LeO.refl _)
   | (with_reducible exact LeO.none _)
   | (with_reducible refine LeO.ite ?_ ?_)
   | (with_reducible refine LeO.bind ?_ (fun _ => ?_))
   | exact ih0 _ _ _ _ _ _ _
   | exact LeO.none _
   | refine LeO.ite ?_ ?_
   | refine LeO.bind ?_ (fun _ => ?_)
set_option maxHeartbeats 8000000 in
set_option maxRecDepth 100000 in
theorem quad_around.calls (k : Nat) (A0 : Option Addr) (c0 : Nat) (l0 : List (S37)) (r1 : Int) (r2 : Int) (r3 : Int) (w : World) (hr0 : Kd.C k37 w A0 l0.length l0) (hc0 : l0.length ≤ c0) (h : quad_around.f k l0 = some (r1, r2, r3)) :
  Calls Tryz.prog 41 #[.slice A0 l0.length c0] w fun e w' => e = .returned (.agg #[.int .u32 r1, .int .u32 r2, .int .i64 r3]) ∧ Below w.heap.size w w' := by
 have hu41 := Tryz.underlying41
 have hu37 := Tryz.underlying37
 have HR0 := Aside0.mk hr0
 have HC0 := Aside0.mk hc0
 clear hr0 hc0
 have HB := Aside0.mk (Below.refl w.heap.size w)
 have H : (if 0 < (l0.length : Int) then (quad_around.l0 k ((rd_T37 l0 0).f1) ((rd_T37 l0 0).f2) ((rd_T37 l0 0).f1) ((rd_T37 l0 0).f2) l0 (l0.length : Int) 0) else (none)) = some (r1, r2, r3) := h
 clear h
 by_cases c2 : 0 < (l0.length : Int)
 ·rw [if_pos c2] at H
  have c2b0 : decide (0 < (l0.length : Int)) = true := decide_eq_true c2
  have c2b1 : decide (0 < l0.length) = true := decide_eq_true (by omega)
  clear c2
  have H' := Aside0.mk H
  clear H
  go_enter Tryz.func41, Tryz.ntmps41
  go_wp2_with (first | ((with_reducible refine gate_dst (N := 2) rfl ?_); refine box_event ?hg (N := 2) ?hd (cs := #[.int .u32 0, .int .u32 0, .int .i64 0]) (t := 41) ?hr ?_; (case hd => rfl); (case hg => rfl); (case hr => first | (go_simp; done) | (go_simp; rfl)); intro gb118 hg w3 hbox hb; have n0_ := Aside0.mk (below_step (by repeat (first | (with_reducible first | exact HB.out | apply below_alloc | apply pw_below_drewN | apply below_drew1) | exact HB.out)) hb); have n1_ := Aside0.mk (hbox); have n2_ := Aside0.mk ((by rw [hg]; exact (below_size (by repeat (first | (with_reducible first | exact HB.out | apply below_alloc | apply pw_below_drewN | apply below_drew1) | exact HB.out))) : w.heap.size ≤ gb118)); have n3_ := Aside0.mk ((by rw [hg]; exact (below_size (by repeat (first | (with_reducible first | exact HB.out | apply below_alloc | apply pw_below_drewN | apply below_drew1) | exact HB.out))) : w.heap.size ≤ gb118)); clear HB; have HB := n0_; have BK118 := n1_; have GW118 := n2_; have GE118 := n3_; clear n0_ n1_ n2_ n3_; clear hb hbox hg; have p119 : 0 ≤ (0 : Int) := (by omega); have q119 : 0 < (l0.length : Int) := of_decide_eq_true (by first | (with_reducible assumption) | assumption); obtain ⟨ad119, e119, hx119_0, hx119_1, hx119_2, hx119_3⟩ := at_T37 HR0.out 0 p119 q119; cases e119; have qi119 : (0 < l0.length) = True := eq_true (by omega); (try rw [show ((0 : Int)).toNat = 0 from rfl] at hx119_0); (try rw [show 0 * 4 = 0 from rfl] at hx119_0); (try rw [Addr.add_zero'] at hx119_0); (try rw [show ((0 : Int)).toNat = 0 from rfl] at hx119_1); (try rw [show 0 * 4 = 0 from rfl] at hx119_1); (try rw [Addr.add_zero'] at hx119_1); (try rw [show ((0 : Int)).toNat = 0 from rfl] at hx119_2); (try rw [show 0 * 4 = 0 from rfl] at hx119_2); (try rw [Addr.add_zero'] at hx119_2); (try rw [show ((0 : Int)).toNat = 0 from rfl] at hx119_3); (try rw [show 0 * 4 = 0 from rfl] at hx119_3); (try rw [Addr.add_zero'] at hx119_3); replace hx119_0 := (HB.out.cell (World.block_lt_of_cell? w _ hx119_0)).trans hx119_0; replace hx119_1 := (HB.out.cell (World.block_lt_of_cell? w _ hx119_1)).trans hx119_1; replace hx119_2 := (HB.out.cell (World.block_lt_of_cell? w _ hx119_2)).trans hx119_2; replace hx119_3 := (HB.out.cell (World.block_lt_of_cell? w _ hx119_3)).trans hx119_3; replace p119 := eq_true p119; replace q119 := eq_true q119; have p120 : 0 ≤ (0 : Int) := (by omega); have q120 : 0 < (l0.length : Int) := of_decide_eq_true (by first | (with_reducible assumption) | assumption); obtain ⟨ad120, e120, hx120_0, hx120_1, hx120_2, hx120_3⟩ := at_T37 HR0.out 0 p120 q120; obtain rfl : ad119 = ad120 := (by injection e120); have qi120 : (0 < l0.length) = True := eq_true (by omega); (try rw [show ((0 : Int)).toNat = 0 from rfl] at hx120_0); (try rw [show 0 * 4 = 0 from rfl] at hx120_0); (try rw [Addr.add_zero'] at hx120_0); (try rw [show ((0 : Int)).toNat = 0 from rfl] at hx120_1); (try rw [show 0 * 4 = 0 from rfl] at hx120_1); (try rw [Addr.add_zero'] at hx120_1); (try rw [show ((0 : Int)).toNat = 0 from rfl] at hx120_2); (try rw [show 0 * 4 = 0 from rfl] at hx120_2); (try rw [Addr.add_zero'] at hx120_2); (try rw [show ((0 : Int)).toNat = 0 from rfl] at hx120_3); (try rw [show 0 * 4 = 0 from rfl] at hx120_3); (try rw [Addr.add_zero'] at hx120_3); replace hx120_0 := (HB.out.cell (World.block_lt_of_cell? w _ hx120_0)).trans hx120_0; replace hx120_1 := (HB.out.cell (World.block_lt_of_cell? w _ hx120_1)).trans hx120_1; replace hx120_2 := (HB.out.cell (World.block_lt_of_cell? w _ hx120_2)).trans hx120_2; replace hx120_3 := (HB.out.cell (World.block_lt_of_cell? w _ hx120_3)).trans hx120_3; replace p120 := eq_true p120; replace q120 := eq_true q120; have p121 : 0 ≤ (0 : Int) := (by omega); have q121 : 0 < (l0.length : Int) := of_decide_eq_true (by first | (with_reducible assumption) | assumption); obtain ⟨ad121, e121, hx121_0, hx121_1, hx121_2, hx121_3⟩ := at_T37 HR0.out 0 p121 q121; obtain rfl : ad119 = ad121 := (by injection e121); have qi121 : (0 < l0.length) = True := eq_true (by omega); (try rw [show ((0 : Int)).toNat = 0 from rfl] at hx121_0); (try rw [show 0 * 4 = 0 from rfl] at hx121_0); (try rw [Addr.add_zero'] at hx121_0); (try rw [show ((0 : Int)).toNat = 0 from rfl] at hx121_1); (try rw [show 0 * 4 = 0 from rfl] at hx121_1); (try rw [Addr.add_zero'] at hx121_1); (try rw [show ((0 : Int)).toNat = 0 from rfl] at hx121_2); (try rw [show 0 * 4 = 0 from rfl] at hx121_2); (try rw [Addr.add_zero'] at hx121_2); (try rw [show ((0 : Int)).toNat = 0 from rfl] at hx121_3); (try rw [show 0 * 4 = 0 from rfl] at hx121_3); (try rw [Addr.add_zero'] at hx121_3); replace hx121_0 := (HB.out.cell (World.block_lt_of_cell? w _ hx121_0)).trans hx121_0; replace hx121_1 := (HB.out.cell (World.block_lt_of_cell? w _ hx121_1)).trans hx121_1; replace hx121_2 := (HB.out.cell (World.block_lt_of_cell? w _ hx121_2)).trans hx121_2; replace hx121_3 := (HB.out.cell (World.block_lt_of_cell? w _ hx121_3)).trans hx121_3; replace p121 := eq_true p121; replace q121 := eq_true q121; have p122 : 0 ≤ (0 : Int) := (by omega); have q122 : 0 < (l0.length : Int) := of_decide_eq_true (by first | (with_reducible assumption) | assumption); obtain ⟨ad122, e122, hx122_0, hx122_1, hx122_2, hx122_3⟩ := at_T37 HR0.out 0 p122 q122; obtain rfl : ad119 = ad122 := (by injection e122); have qi122 : (0 < l0.length) = True := eq_true (by omega); (try rw [show ((0 : Int)).toNat = 0 from rfl] at hx122_0); (try rw [show 0 * 4 = 0 from rfl] at hx122_0); (try rw [Addr.add_zero'] at hx122_0); (try rw [show ((0 : Int)).toNat = 0 from rfl] at hx122_1); (try rw [show 0 * 4 = 0 from rfl] at hx122_1); (try rw [Addr.add_zero'] at hx122_1); (try rw [show ((0 : Int)).toNat = 0 from rfl] at hx122_2); (try rw [show 0 * 4 = 0 from rfl] at hx122_2); (try rw [Addr.add_zero'] at hx122_2); (try rw [show ((0 : Int)).toNat = 0 from rfl] at hx122_3); (try rw [show 0 * 4 = 0 from rfl] at hx122_3); (try rw [Addr.add_zero'] at hx122_3); replace hx122_0 := (HB.out.cell (World.block_lt_of_cell? w _ hx122_0)).trans hx122_0; replace hx122_1 := (HB.out.cell (World.block_lt_of_cell? w _ hx122_1)).trans hx122_1; replace hx122_2 := (HB.out.cell (World.block_lt_of_cell? w _ hx122_2)).trans hx122_2; replace hx122_3 := (HB.out.cell (World.block_lt_of_cell? w _ hx122_3)).trans hx122_3; replace p122 := eq_true p122; replace q122 := eq_true q122))
  repeat (go_quiet (first | ((with_reducible refine gate_dst (N := 2) rfl ?_); refine box_event ?hg (N := 2) ?hd (cs := #[.int .u32 0, .int .u32 0, .int .i64 0]) (t := 41) ?hr ?_; (case hd => rfl); (case hg => rfl); (case hr => first | (go_simp; done) | (go_simp; rfl)); intro gb118 hg w3 hbox hb; have n0_ := Aside0.mk (below_step (by repeat (first | (with_reducible first | exact HB.out | apply below_alloc | apply pw_below_drewN | apply below_drew1) | exact HB.out)) hb); have n1_ := Aside0.mk (hbox); have n2_ := Aside0.mk ((by rw [hg]; exact (below_size (by repeat (first | (with_reducible first | exact HB.out | apply below_alloc | apply pw_below_drewN | apply below_drew1) | exact HB.out))) : w.heap.size ≤ gb118)); have n3_ := Aside0.mk ((by rw [hg]; exact (below_size (by repeat (first | (with_reducible first | exact HB.out | apply below_alloc | apply pw_below_drewN | apply below_drew1) | exact HB.out))) : w.heap.size ≤ gb118)); clear HB; have HB := n0_; have BK118 := n1_; have GW118 := n2_; have GE118 := n3_; clear n0_ n1_ n2_ n3_; clear hb hbox hg; have p119 : 0 ≤ (0 : Int) := (by omega); have q119 : 0 < (l0.length : Int) := of_decide_eq_true (by first | (with_reducible assumption) | assumption); obtain ⟨ad119, e119, hx119_0, hx119_1, hx119_2, hx119_3⟩ := at_T37 HR0.out 0 p119 q119; cases e119; have qi119 : (0 < l0.length) = True := eq_true (by omega); (try rw [show ((0 : Int)).toNat = 0 from rfl] at hx119_0); (try rw [show 0 * 4 = 0 from rfl] at hx119_0); (try rw [Addr.add_zero'] at hx119_0); (try rw [show ((0 : Int)).toNat = 0 from rfl] at hx119_1); (try rw [show 0 * 4 = 0 from rfl] at hx119_1); (try rw [Addr.add_zero'] at hx119_1); (try rw [show ((0 : Int)).toNat = 0 from rfl] at hx119_2); (try rw [show 0 * 4 = 0 from rfl] at hx119_2); (try rw [Addr.add_zero'] at hx119_2); (try rw [show ((0 : Int)).toNat = 0 from rfl] at hx119_3); (try rw [show 0 * 4 = 0 from rfl] at hx119_3); (try rw [Addr.add_zero'] at hx119_3); replace hx119_0 := (HB.out.cell (World.block_lt_of_cell? w _ hx119_0)).trans hx119_0; replace hx119_1 := (HB.out.cell (World.block_lt_of_cell? w _ hx119_1)).trans hx119_1; replace hx119_2 := (HB.out.cell (World.block_lt_of_cell? w _ hx119_2)).trans hx119_2; replace hx119_3 := (HB.out.cell (World.block_lt_of_cell? w _ hx119_3)).trans hx119_3; replace p119 := eq_true p119; replace q119 := eq_true q119; have p120 : 0 ≤ (0 : Int) := (by omega); have q120 : 0 < (l0.length : Int) := of_decide_eq_true (by first | (with_reducible assumption) | assumption); obtain ⟨ad120, e120, hx120_0, hx120_1, hx120_2, hx120_3⟩ := at_T37 HR0.out 0 p120 q120; obtain rfl : ad119 = ad120 := (by injection e120); have qi120 : (0 < l0.length) = True := eq_true (by omega); (try rw [show ((0 : Int)).toNat = 0 from rfl] at hx120_0); (try rw [show 0 * 4 = 0 from rfl] at hx120_0); (try rw [Addr.add_zero'] at hx120_0); (try rw [show ((0 : Int)).toNat = 0 from rfl] at hx120_1); (try rw [show 0 * 4 = 0 from rfl] at hx120_1); (try rw [Addr.add_zero'] at hx120_1); (try rw [show ((0 : Int)).toNat = 0 from rfl] at hx120_2); (try rw [show 0 * 4 = 0 from rfl] at hx120_2); (try rw [Addr.add_zero'] at hx120_2); (try rw [show ((0 : Int)).toNat = 0 from rfl] at hx120_3); (try rw [show 0 * 4 = 0 from rfl] at hx120_3); (try rw [Addr.add_zero'] at hx120_3); replace hx120_0 := (HB.out.cell (World.block_lt_of_cell? w _ hx120_0)).trans hx120_0; replace hx120_1 := (HB.out.cell (World.block_lt_of_cell? w _ hx120_1)).trans hx120_1; replace hx120_2 := (HB.out.cell (World.block_lt_of_cell? w _ hx120_2)).trans hx120_2; replace hx120_3 := (HB.out.cell (World.block_lt_of_cell? w _ hx120_3)).trans hx120_3; replace p120 := eq_true p120; replace q120 := eq_true q120; have p121 : 0 ≤ (0 : Int) := (by omega); have q121 : 0 < (l0.length : Int) := of_decide_eq_true (by first | (with_reducible assumption) | assumption); obtain ⟨ad121, e121, hx121_0, hx121_1, hx121_2, hx121_3⟩ := at_T37 HR0.out 0 p121 q121; obtain rfl : ad119 = ad121 := (by injection e121); have qi121 : (0 < l0.length) = True := eq_true (by omega); (try rw [show ((0 : Int)).toNat = 0 from rfl] at hx121_0); (try rw [show 0 * 4 = 0 from rfl] at hx121_0); (try rw [Addr.add_zero'] at hx121_0); (try rw [show ((0 : Int)).toNat = 0 from rfl] at hx121_1); (try rw [show 0 * 4 = 0 from rfl] at hx121_1); (try rw [Addr.add_zero'] at hx121_1); (try rw [show ((0 : Int)).toNat = 0 from rfl] at hx121_2); (try rw [show 0 * 4 = 0 from rfl] at hx121_2); (try rw [Addr.add_zero'] at hx121_2); (try rw [show ((0 : Int)).toNat = 0 from rfl] at hx121_3); (try rw [show 0 * 4 = 0 from rfl] at hx121_3); (try rw [Addr.add_zero'] at hx121_3); replace hx121_0 := (HB.out.cell (World.block_lt_of_cell? w _ hx121_0)).trans hx121_0; replace hx121_1 := (HB.out.cell (World.block_lt_of_cell? w _ hx121_1)).trans hx121_1; replace hx121_2 := (HB.out.cell (World.block_lt_of_cell? w _ hx121_2)).trans hx121_2; replace hx121_3 := (HB.out.cell (World.block_lt_of_cell? w _ hx121_3)).trans hx121_3; replace p121 := eq_true p121; replace q121 := eq_true q121; have p122 : 0 ≤ (0 : Int) := (by omega); have q122 : 0 < (l0.length : Int) := of_decide_eq_true (by first | (with_reducible assumption) | assumption); obtain ⟨ad122, e122, hx122_0, hx122_1, hx122_2, hx122_3⟩ := at_T37 HR0.out 0 p122 q122; obtain rfl : ad119 = ad122 := (by injection e122); have qi122 : (0 < l0.length) = True := eq_true (by omega); (try rw [show ((0 : Int)).toNat = 0 from rfl] at hx122_0); (try rw [show 0 * 4 = 0 from rfl] at hx122_0); (try rw [Addr.add_zero'] at hx122_0); (try rw [show ((0 : Int)).toNat = 0 from rfl] at hx122_1); (try rw [show 0 * 4 = 0 from rfl] at hx122_1); (try rw [Addr.add_zero'] at hx122_1); (try rw [show ((0 : Int)).toNat = 0 from rfl] at hx122_2); (try rw [show 0 * 4 = 0 from rfl] at hx122_2); (try rw [Addr.add_zero'] at hx122_2); (try rw [show ((0 : Int)).toNat = 0 from rfl] at hx122_3); (try rw [show 0 * 4 = 0 from rfl] at hx122_3); (try rw [Addr.add_zero'] at hx122_3); replace hx122_0 := (HB.out.cell (World.block_lt_of_cell? w _ hx122_0)).trans hx122_0; replace hx122_1 := (HB.out.cell (World.block_lt_of_cell? w _ hx122_1)).trans hx122_1; replace hx122_2 := (HB.out.cell (World.block_lt_of_cell? w _ hx122_2)).trans hx122_2; replace hx122_3 := (HB.out.cell (World.block_lt_of_cell? w _ hx122_3)).trans hx122_3; replace p122 := eq_true p122; replace q122 := eq_true q122)); try go_wp2_with (first | ((with_reducible refine gate_dst (N := 2) rfl ?_); refine box_event ?hg (N := 2) ?hd (cs := #[.int .u32 0, .int .u32 0, .int .i64 0]) (t := 41) ?hr ?_; (case hd => rfl); (case hg => rfl); (case hr => first | (go_simp; done) | (go_simp; rfl)); intro gb118 hg w3 hbox hb; have n0_ := Aside0.mk (below_step (by repeat (first | (with_reducible first | exact HB.out | apply below_alloc | apply pw_below_drewN | apply below_drew1) | exact HB.out)) hb); have n1_ := Aside0.mk (hbox); have n2_ := Aside0.mk ((by rw [hg]; exact (below_size (by repeat (first | (with_reducible first | exact HB.out | apply below_alloc | apply pw_below_drewN | apply below_drew1) | exact HB.out))) : w.heap.size ≤ gb118)); have n3_ := Aside0.mk ((by rw [hg]; exact (below_size (by repeat (first | (with_reducible first | exact HB.out | apply below_alloc | apply pw_below_drewN | apply below_drew1) | exact HB.out))) : w.heap.size ≤ gb118)); clear HB; have HB := n0_; have BK118 := n1_; have GW118 := n2_; have GE118 := n3_; clear n0_ n1_ n2_ n3_; clear hb hbox hg; have p119 : 0 ≤ (0 : Int) := (by omega); have q119 : 0 < (l0.length : Int) := of_decide_eq_true (by first | (with_reducible assumption) | assumption); obtain ⟨ad119, e119, hx119_0, hx119_1, hx119_2, hx119_3⟩ := at_T37 HR0.out 0 p119 q119; cases e119; have qi119 : (0 < l0.length) = True := eq_true (by omega); (try rw [show ((0 : Int)).toNat = 0 from rfl] at hx119_0); (try rw [show 0 * 4 = 0 from rfl] at hx119_0); (try rw [Addr.add_zero'] at hx119_0); (try rw [show ((0 : Int)).toNat = 0 from rfl] at hx119_1); (try rw [show 0 * 4 = 0 from rfl] at hx119_1); (try rw [Addr.add_zero'] at hx119_1); (try rw [show ((0 : Int)).toNat = 0 from rfl] at hx119_2); (try rw [show 0 * 4 = 0 from rfl] at hx119_2); (try rw [Addr.add_zero'] at hx119_2); (try rw [show ((0 : Int)).toNat = 0 from rfl] at hx119_3); (try rw [show 0 * 4 = 0 from rfl] at hx119_3); (try rw [Addr.add_zero'] at hx119_3); replace hx119_0 := (HB.out.cell (World.block_lt_of_cell? w _ hx119_0)).trans hx119_0; replace hx119_1 := (HB.out.cell (World.block_lt_of_cell? w _ hx119_1)).trans hx119_1; replace hx119_2 := (HB.out.cell (World.block_lt_of_cell? w _ hx119_2)).trans hx119_2; replace hx119_3 := (HB.out.cell (World.block_lt_of_cell? w _ hx119_3)).trans hx119_3; replace p119 := eq_true p119; replace q119 := eq_true q119; have p120 : 0 ≤ (0 : Int) := (by omega); have q120 : 0 < (l0.length : Int) := of_decide_eq_true (by first | (with_reducible assumption) | assumption); obtain ⟨ad120, e120, hx120_0, hx120_1, hx120_2, hx120_3⟩ := at_T37 HR0.out 0 p120 q120; obtain rfl : ad119 = ad120 := (by injection e120); have qi120 : (0 < l0.length) = True := eq_true (by omega); (try rw [show ((0 : Int)).toNat = 0 from rfl] at hx120_0); (try rw [show 0 * 4 = 0 from rfl] at hx120_0); (try rw [Addr.add_zero'] at hx120_0); (try rw [show ((0 : Int)).toNat = 0 from rfl] at hx120_1); (try rw [show 0 * 4 = 0 from rfl] at hx120_1); (try rw [Addr.add_zero'] at hx120_1); (try rw [show ((0 : Int)).toNat = 0 from rfl] at hx120_2); (try rw [show 0 * 4 = 0 from rfl] at hx120_2); (try rw [Addr.add_zero'] at hx120_2); (try rw [show ((0 : Int)).toNat = 0 from rfl] at hx120_3); (try rw [show 0 * 4 = 0 from rfl] at hx120_3); (try rw [Addr.add_zero'] at hx120_3); replace hx120_0 := (HB.out.cell (World.block_lt_of_cell? w _ hx120_0)).trans hx120_0; replace hx120_1 := (HB.out.cell (World.block_lt_of_cell? w _ hx120_1)).trans hx120_1; replace hx120_2 := (HB.out.cell (World.block_lt_of_cell? w _ hx120_2)).trans hx120_2; replace hx120_3 := (HB.out.cell (World.block_lt_of_cell? w _ hx120_3)).trans hx120_3; replace p120 := eq_true p120; replace q120 := eq_true q120; have p121 : 0 ≤ (0 : Int) := (by omega); have q121 : 0 < (l0.length : Int) := of_decide_eq_true (by first | (with_reducible assumption) | assumption); obtain ⟨ad121, e121, hx121_0, hx121_1, hx121_2, hx121_3⟩ := at_T37 HR0.out 0 p121 q121; obtain rfl : ad119 = ad121 := (by injection e121); have qi121 : (0 < l0.length) = True := eq_true (by omega); (try rw [show ((0 : Int)).toNat = 0 from rfl] at hx121_0); (try rw [show 0 * 4 = 0 from rfl] at hx121_0); (try rw [Addr.add_zero'] at hx121_0); (try rw [show ((0 : Int)).toNat = 0 from rfl] at hx121_1); (try rw [show 0 * 4 = 0 from rfl] at hx121_1); (try rw [Addr.add_zero'] at hx121_1); (try rw [show ((0 : Int)).toNat = 0 from rfl] at hx121_2); (try rw [show 0 * 4 = 0 from rfl] at hx121_2); (try rw [Addr.add_zero'] at hx121_2); (try rw [show ((0 : Int)).toNat = 0 from rfl] at hx121_3); (try rw [show 0 * 4 = 0 from rfl] at hx121_3); (try rw [Addr.add_zero'] at hx121_3); replace hx121_0 := (HB.out.cell (World.block_lt_of_cell? w _ hx121_0)).trans hx121_0; replace hx121_1 := (HB.out.cell (World.block_lt_of_cell? w _ hx121_1)).trans hx121_1; replace hx121_2 := (HB.out.cell (World.block_lt_of_cell? w _ hx121_2)).trans hx121_2; replace hx121_3 := (HB.out.cell (World.block_lt_of_cell? w _ hx121_3)).trans hx121_3; replace p121 := eq_true p121; replace q121 := eq_true q121; have p122 : 0 ≤ (0 : Int) := (by omega); have q122 : 0 < (l0.length : Int) := of_decide_eq_true (by first | (with_reducible assumption) | assumption); obtain ⟨ad122, e122, hx122_0, hx122_1, hx122_2, hx122_3⟩ := at_T37 HR0.out 0 p122 q122; obtain rfl : ad119 = ad122 := (by injection e122); have qi122 : (0 < l0.length) = True := eq_true (by omega); (try rw [show ((0 : Int)).toNat = 0 from rfl] at hx122_0); (try rw [show 0 * 4 = 0 from rfl] at hx122_0); (try rw [Addr.add_zero'] at hx122_0); (try rw [show ((0 : Int)).toNat = 0 from rfl] at hx122_1); (try rw [show 0 * 4 = 0 from rfl] at hx122_1); (try rw [Addr.add_zero'] at hx122_1); (try rw [show ((0 : Int)).toNat = 0 from rfl] at hx122_2); (try rw [show 0 * 4 = 0 from rfl] at hx122_2); (try rw [Addr.add_zero'] at hx122_2); (try rw [show ((0 : Int)).toNat = 0 from rfl] at hx122_3); (try rw [show 0 * 4 = 0 from rfl] at hx122_3); (try rw [Addr.add_zero'] at hx122_3); replace hx122_0 := (HB.out.cell (World.block_lt_of_cell? w _ hx122_0)).trans hx122_0; replace hx122_1 := (HB.out.cell (World.block_lt_of_cell? w _ hx122_1)).trans hx122_1; replace hx122_2 := (HB.out.cell (World.block_lt_of_cell? w _ hx122_2)).trans hx122_2; replace hx122_3 := (HB.out.cell (World.block_lt_of_cell? w _ hx122_3)).trans hx122_3; replace p122 := eq_true p122; replace q122 := eq_true q122)))
  go_loopg [3, 4, 5, 6, 29] k (fun kq v3 v4 v5 v6 v29 w' => ∃ (x3_1 : Int) (x4_1 : Int) (x5_1 : Int) (x6_1 : Int) (x29_1 : Int), v3 = .int .u32 x3_1 ∧ v4 = .int .u32 x4_1 ∧ v5 = .int .u32 x5_1 ∧ v6 = .int .u32 x6_1 ∧ v29 = .int .i64 x29_1 ∧ Aside0 (quad_around.l0 kq x3_1 x4_1 x5_1 x6_1 l0 (l0.length : Int) x29_1 = some (r1, r2, r3)) ∧ Aside0 (kq ≤ k) ∧ Aside0 (w'.heap[gb118]? = some (.cells #[.int .u32 0, .int .u32 0, .int .i64 0] 41 (0, 0))) ∧ Aside0 (Below w.heap.size w w'))
  case atStart => exact ⟨((rd_T37 l0 0).f1), ((rd_T37 l0 0).f2), ((rd_T37 l0 0).f1), ((rd_T37 l0 0).f2), (0), (by first | rfl | (simp; done) | (simp [*]; done)), (by first | rfl | (simp; done) | (simp [*]; done)), (by first | rfl | (simp; done) | (simp [*]; done)), (by first | rfl | (simp; done) | (simp [*]; done)), (by first | rfl | (simp; done) | (simp [*]; done)), H', ⟨Nat.le_refl _⟩, ⟨by (with_reducible repeat (first | refine blk_drewN ?_ _ | refine blk_drew ?_ | refine blk_alloc ?_ _)); exact BK118.out⟩, ⟨by repeat (first | (with_reducible first | exact HB.out | apply below_alloc | apply pw_below_drewN | apply below_drew1 | refine below_set ?_ GE118.out) | exact HB.out)⟩⟩
  case round =>
   clear H'
   try clear p1
   try clear q1
   try clear hx1
   try clear qi1
   try clear c2
   try clear c2b0
   try clear c2b1
   try clear p2
   try clear hx119_0
   try clear hx119_1
   try clear hx119_2
   try clear hx119_3
   try clear hx120_0
   try clear hx120_1
   try clear hx120_2
   try clear hx120_3
   try clear hx121_0
   try clear hx121_1
   try clear hx121_2
   try clear hx121_3
   try clear hx122_0
   try clear hx122_1
   try clear hx122_2
   try clear hx122_3
   try clear p119
   try clear p120
   try clear p121
   try clear p122
   try clear q119
   try clear q120
   try clear q121
   try clear q122
   obtain ⟨x3_1, x4_1, x5_1, x6_1, x29_1, rfl, rfl, rfl, rfl, rfl, HA, HK1, BK118, HB⟩ := hrel
   cases gk with
   | zero => exact absurd HA.out (by simp [quad_around.l0])
   | succ k1 =>
    have H := HA.out
    clear HA
    simp only [quad_around.l0] at H
    by_cases c4 : x29_1 < (l0.length : Int)
    ·rw [if_pos c4] at H
     have c4b0 : decide (x29_1 < (l0.length : Int)) = true := decide_eq_true c4
     clear c4
     by_cases c5 : 0 ≤ x29_1
     ·rw [if_pos c5] at H
      have c5b0 : decide (0 ≤ x29_1) = true := decide_eq_true c5
      clear c5
      by_cases c6 : x29_1 < (l0.length : Int)
      ·rw [if_pos c6] at H
       have c6b0 : decide (x29_1 < (l0.length : Int)) = true := decide_eq_true c6
       clear c6
       obtain ⟨ji7, hji7⟩ : ∃ j_ : Int, (mn x3_1 ((rd_T37 l0 x29_1).f1)) = j_ := ⟨_, rfl⟩
       replace H : (quad_around.l0 k1 ji7 (mn x4_1 ((rd_T37 l0 x29_1).f2)) (mx x5_1 ((rd_T37 l0 x29_1).f1)) (mx x6_1 ((rd_T37 l0 x29_1).f2)) l0 (l0.length : Int) (wrap64 (x29_1 + 1))) = some (r1, r2, r3) := by first | (rw [hji7] at H; exact H) | (simp only [hji7] at H ⊢; exact H)
       have hji7_ : (if ((rd_T37 l0 x29_1).f1) < x3_1 then ((rd_T37 l0 x29_1).f1) else x3_1) = ji7 := hji7
       obtain ⟨ji8, hji8⟩ : ∃ j_ : Int, (mn x4_1 ((rd_T37 l0 x29_1).f2)) = j_ := ⟨_, rfl⟩
       replace H : (quad_around.l0 k1 ji7 ji8 (mx x5_1 ((rd_T37 l0 x29_1).f1)) (mx x6_1 ((rd_T37 l0 x29_1).f2)) l0 (l0.length : Int) (wrap64 (x29_1 + 1))) = some (r1, r2, r3) := by first | (rw [hji8] at H; exact H) | (simp only [hji8] at H ⊢; exact H)
       have hji8_ : (if ((rd_T37 l0 x29_1).f2) < x4_1 then ((rd_T37 l0 x29_1).f2) else x4_1) = ji8 := hji8
       obtain ⟨ji9, hji9⟩ : ∃ j_ : Int, (mx x5_1 ((rd_T37 l0 x29_1).f1)) = j_ := ⟨_, rfl⟩
       replace H : (quad_around.l0 k1 ji7 ji8 ji9 (mx x6_1 ((rd_T37 l0 x29_1).f2)) l0 (l0.length : Int) (wrap64 (x29_1 + 1))) = some (r1, r2, r3) := by first | (rw [hji9] at H; exact H) | (simp only [hji9] at H ⊢; exact H)
       have hji9_ : (if x5_1 < ((rd_T37 l0 x29_1).f1) then ((rd_T37 l0 x29_1).f1) else x5_1) = ji9 := hji9
       obtain ⟨ji10, hji10⟩ : ∃ j_ : Int, (mx x6_1 ((rd_T37 l0 x29_1).f2)) = j_ := ⟨_, rfl⟩
       replace H : (quad_around.l0 k1 ji7 ji8 ji9 ji10 l0 (l0.length : Int) (wrap64 (x29_1 + 1))) = some (r1, r2, r3) := by first | (rw [hji10] at H; exact H) | (simp only [hji10] at H ⊢; exact H)
       have hji10_ : (if x6_1 < ((rd_T37 l0 x29_1).f2) then ((rd_T37 l0 x29_1).f2) else x6_1) = ji10 := hji10
       have H' := Aside0.mk H
       clear H
       have p123 : 0 ≤ (x29_1 : Int) := of_decide_eq_true (by first | (with_reducible assumption) | assumption)
       have q123 : x29_1 < (l0.length : Int) := of_decide_eq_true (by first | (with_reducible assumption) | assumption)
       obtain ⟨ad123, e123, hx123_0, hx123_1, hx123_2, hx123_3⟩ := at_T37 HR0.out x29_1 p123 q123
       obtain rfl : ad119 = ad123 := (by injection e123)
       replace hx123_0 := (HB.out.cell (World.block_lt_of_cell? w _ hx123_0)).trans hx123_0
       replace hx123_1 := (HB.out.cell (World.block_lt_of_cell? w _ hx123_1)).trans hx123_1
       replace hx123_2 := (HB.out.cell (World.block_lt_of_cell? w _ hx123_2)).trans hx123_2
       replace hx123_3 := (HB.out.cell (World.block_lt_of_cell? w _ hx123_3)).trans hx123_3
       replace p123 := eq_true p123
       replace q123 := eq_true q123
       go_wp2_with (first | ((with_reducible refine gate_dst (N := 8) rfl ?_); refine box_event ?hg (N := 8) ?hd (cs := #[.int .u64 0, .int .u32 0, .int .u32 0, .string (⟨#[]⟩ : ByteArray)]) (t := 37) ?hr ?_; (case hd => rfl); (case hg => rfl); (case hr => first | (go_simp; done) | (go_simp; rfl)); intro gb124 hg w11 hbox hb; have n0_ := Aside0.mk (blk_below (g := gb118) (o := .cells #[.int .u32 0, .int .u32 0, .int .i64 0] 41 (0, 0)) (by (with_reducible repeat (first | refine blk_drewN ?_ _ | refine blk_drew ?_ | refine blk_alloc ?_ _)); exact BK118.out) hb); have n1_ := Aside0.mk (below_step (by repeat (first | (with_reducible first | exact HB.out | apply below_alloc | apply pw_below_drewN | apply below_drew1 | refine below_set ?_ GE118.out) | exact HB.out)) hb); have n2_ := Aside0.mk (hbox); have n3_ := Aside0.mk ((by rw [hg]; exact (below_size (by repeat (first | (with_reducible first | exact HB.out | apply below_alloc | apply pw_below_drewN | apply below_drew1 | refine below_set ?_ GE118.out) | exact HB.out))) : w.heap.size ≤ gb124)); have n4_ := Aside0.mk ((by rw [hg]; exact (below_size (by repeat (first | (with_reducible first | exact HB.out | apply below_alloc | apply pw_below_drewN | apply below_drew1 | refine below_set ?_ GE118.out) | exact HB.out))) : w.heap.size ≤ gb124)); have n5_ := Aside0.mk ((by rw [hg]; exact Nat.ne_of_lt (blk_lt (g := gb118) (o := .cells #[.int .u32 0, .int .u32 0, .int .i64 0] 41 (0, 0)) (by (with_reducible repeat (first | refine blk_drewN ?_ _ | refine blk_drew ?_ | refine blk_alloc ?_ _)); exact BK118.out)) : gb118 ≠ gb124)); have n6_ := Aside0.mk ((by rw [hg]; exact Nat.ne_of_gt (blk_lt (g := gb118) (o := .cells #[.int .u32 0, .int .u32 0, .int .i64 0] 41 (0, 0)) (by (with_reducible repeat (first | refine blk_drewN ?_ _ | refine blk_drew ?_ | refine blk_alloc ?_ _)); exact BK118.out)) : gb124 ≠ gb118)); clear BK118; clear HB; have BK118 := n0_; have HB := n1_; have BK124 := n2_; have GW124 := n3_; have GE124 := n4_; have NB118_124 := n5_; have NB124_118 := n6_; clear n0_ n1_ n2_ n3_ n4_ n5_ n6_; clear hb hbox hg; have hnb12 := NB124_118.out; have hnc12 := NB118_124.out; have hcz13_0 : w11.cell? ⟨gb124, 0, none⟩ = some (.int .u64 0) := (blk_cell BK124.out 0).trans rfl; have hcz13_1 : w11.cell? ⟨gb124, 1, none⟩ = some (.int .u32 0) := (blk_cell BK124.out 1).trans rfl; have hcz13_2 : w11.cell? ⟨gb124, 2, none⟩ = some (.int .u32 0) := (blk_cell BK124.out 2).trans rfl; have hcz13_3 : w11.cell? ⟨gb124, 3, none⟩ = some (.string (⟨#[]⟩ : ByteArray)) := (blk_cell BK124.out 3).trans rfl; have hfz13_0 := blk_frozen BK124.out 0; have hfz13_1 := blk_frozen BK124.out 1; have hfz13_2 := blk_frozen BK124.out 2; have hfz13_3 := blk_frozen BK124.out 3))
       repeat (go_quiet (first | ((with_reducible refine gate_dst (N := 8) rfl ?_); refine box_event ?hg (N := 8) ?hd (cs := #[.int .u64 0, .int .u32 0, .int .u32 0, .string (⟨#[]⟩ : ByteArray)]) (t := 37) ?hr ?_; (case hd => rfl); (case hg => rfl); (case hr => first | (go_simp; done) | (go_simp; rfl)); intro gb124 hg w11 hbox hb; have n0_ := Aside0.mk (blk_below (g := gb118) (o := .cells #[.int .u32 0, .int .u32 0, .int .i64 0] 41 (0, 0)) (by (with_reducible repeat (first | refine blk_drewN ?_ _ | refine blk_drew ?_ | refine blk_alloc ?_ _)); exact BK118.out) hb); have n1_ := Aside0.mk (below_step (by repeat (first | (with_reducible first | exact HB.out | apply below_alloc | apply pw_below_drewN | apply below_drew1 | refine below_set ?_ GE118.out) | exact HB.out)) hb); have n2_ := Aside0.mk (hbox); have n3_ := Aside0.mk ((by rw [hg]; exact (below_size (by repeat (first | (with_reducible first | exact HB.out | apply below_alloc | apply pw_below_drewN | apply below_drew1 | refine below_set ?_ GE118.out) | exact HB.out))) : w.heap.size ≤ gb124)); have n4_ := Aside0.mk ((by rw [hg]; exact (below_size (by repeat (first | (with_reducible first | exact HB.out | apply below_alloc | apply pw_below_drewN | apply below_drew1 | refine below_set ?_ GE118.out) | exact HB.out))) : w.heap.size ≤ gb124)); have n5_ := Aside0.mk ((by rw [hg]; exact Nat.ne_of_lt (blk_lt (g := gb118) (o := .cells #[.int .u32 0, .int .u32 0, .int .i64 0] 41 (0, 0)) (by (with_reducible repeat (first | refine blk_drewN ?_ _ | refine blk_drew ?_ | refine blk_alloc ?_ _)); exact BK118.out)) : gb118 ≠ gb124)); have n6_ := Aside0.mk ((by rw [hg]; exact Nat.ne_of_gt (blk_lt (g := gb118) (o := .cells #[.int .u32 0, .int .u32 0, .int .i64 0] 41 (0, 0)) (by (with_reducible repeat (first | refine blk_drewN ?_ _ | refine blk_drew ?_ | refine blk_alloc ?_ _)); exact BK118.out)) : gb124 ≠ gb118)); clear BK118; clear HB; have BK118 := n0_; have HB := n1_; have BK124 := n2_; have GW124 := n3_; have GE124 := n4_; have NB118_124 := n5_; have NB124_118 := n6_; clear n0_ n1_ n2_ n3_ n4_ n5_ n6_; clear hb hbox hg; have hnb12 := NB124_118.out; have hnc12 := NB118_124.out; have hcz13_0 : w11.cell? ⟨gb124, 0, none⟩ = some (.int .u64 0) := (blk_cell BK124.out 0).trans rfl; have hcz13_1 : w11.cell? ⟨gb124, 1, none⟩ = some (.int .u32 0) := (blk_cell BK124.out 1).trans rfl; have hcz13_2 : w11.cell? ⟨gb124, 2, none⟩ = some (.int .u32 0) := (blk_cell BK124.out 2).trans rfl; have hcz13_3 : w11.cell? ⟨gb124, 3, none⟩ = some (.string (⟨#[]⟩ : ByteArray)) := (blk_cell BK124.out 3).trans rfl; have hfz13_0 := blk_frozen BK124.out 0; have hfz13_1 := blk_frozen BK124.out 1; have hfz13_2 := blk_frozen BK124.out 2; have hfz13_3 := blk_frozen BK124.out 3)); try go_wp2_with (first | ((with_reducible refine gate_dst (N := 8) rfl ?_); refine box_event ?hg (N := 8) ?hd (cs := #[.int .u64 0, .int .u32 0, .int .u32 0, .string (⟨#[]⟩ : ByteArray)]) (t := 37) ?hr ?_; (case hd => rfl); (case hg => rfl); (case hr => first | (go_simp; done) | (go_simp; rfl)); intro gb124 hg w11 hbox hb; have n0_ := Aside0.mk (blk_below (g := gb118) (o := .cells #[.int .u32 0, .int .u32 0, .int .i64 0] 41 (0, 0)) (by (with_reducible repeat (first | refine blk_drewN ?_ _ | refine blk_drew ?_ | refine blk_alloc ?_ _)); exact BK118.out) hb); have n1_ := Aside0.mk (below_step (by repeat (first | (with_reducible first | exact HB.out | apply below_alloc | apply pw_below_drewN | apply below_drew1 | refine below_set ?_ GE118.out) | exact HB.out)) hb); have n2_ := Aside0.mk (hbox); have n3_ := Aside0.mk ((by rw [hg]; exact (below_size (by repeat (first | (with_reducible first | exact HB.out | apply below_alloc | apply pw_below_drewN | apply below_drew1 | refine below_set ?_ GE118.out) | exact HB.out))) : w.heap.size ≤ gb124)); have n4_ := Aside0.mk ((by rw [hg]; exact (below_size (by repeat (first | (with_reducible first | exact HB.out | apply below_alloc | apply pw_below_drewN | apply below_drew1 | refine below_set ?_ GE118.out) | exact HB.out))) : w.heap.size ≤ gb124)); have n5_ := Aside0.mk ((by rw [hg]; exact Nat.ne_of_lt (blk_lt (g := gb118) (o := .cells #[.int .u32 0, .int .u32 0, .int .i64 0] 41 (0, 0)) (by (with_reducible repeat (first | refine blk_drewN ?_ _ | refine blk_drew ?_ | refine blk_alloc ?_ _)); exact BK118.out)) : gb118 ≠ gb124)); have n6_ := Aside0.mk ((by rw [hg]; exact Nat.ne_of_gt (blk_lt (g := gb118) (o := .cells #[.int .u32 0, .int .u32 0, .int .i64 0] 41 (0, 0)) (by (with_reducible repeat (first | refine blk_drewN ?_ _ | refine blk_drew ?_ | refine blk_alloc ?_ _)); exact BK118.out)) : gb124 ≠ gb118)); clear BK118; clear HB; have BK118 := n0_; have HB := n1_; have BK124 := n2_; have GW124 := n3_; have GE124 := n4_; have NB118_124 := n5_; have NB124_118 := n6_; clear n0_ n1_ n2_ n3_ n4_ n5_ n6_; clear hb hbox hg; have hnb12 := NB124_118.out; have hnc12 := NB118_124.out; have hcz13_0 : w11.cell? ⟨gb124, 0, none⟩ = some (.int .u64 0) := (blk_cell BK124.out 0).trans rfl; have hcz13_1 : w11.cell? ⟨gb124, 1, none⟩ = some (.int .u32 0) := (blk_cell BK124.out 1).trans rfl; have hcz13_2 : w11.cell? ⟨gb124, 2, none⟩ = some (.int .u32 0) := (blk_cell BK124.out 2).trans rfl; have hcz13_3 : w11.cell? ⟨gb124, 3, none⟩ = some (.string (⟨#[]⟩ : ByteArray)) := (blk_cell BK124.out 3).trans rfl; have hfz13_0 := blk_frozen BK124.out 0; have hfz13_1 := blk_frozen BK124.out 1; have hfz13_2 := blk_frozen BK124.out 2; have hfz13_3 := blk_frozen BK124.out 3)))
       go_roundg k1
       case measure => have := HK1.out; omega
       case rel => exact ⟨(ji7), (ji8), (ji9), (ji10), (wrap64 (x29_1 + 1)), (by first | rfl | (simp; done) | (simp only [← hji7] <;> (first | rfl | simp)) | (simp [*]; done)), (by first | rfl | (simp; done) | (simp only [← hji8] <;> (first | rfl | simp)) | (simp [*]; done)), (by first | rfl | (simp; done) | (simp only [← hji9] <;> (first | rfl | simp)) | (simp [*]; done)), (by first | rfl | (simp; done) | (simp only [← hji10] <;> (first | rfl | simp)) | (simp [*]; done)), (by first | rfl | (simp; done) | (simp [*]; done)), H', ⟨by have := HK1.out; omega⟩, ⟨by (with_reducible repeat (first | refine blk_drewN ?_ _ | refine blk_drew ?_ | refine blk_alloc ?_ _)); refine blk_far ?_ NB118_124.out _; (with_reducible repeat (first | refine blk_drewN ?_ _ | refine blk_drew ?_ | refine blk_alloc ?_ _)); refine blk_far ?_ NB118_124.out _; (with_reducible repeat (first | refine blk_drewN ?_ _ | refine blk_drew ?_ | refine blk_alloc ?_ _)); refine blk_far ?_ NB118_124.out _; (with_reducible repeat (first | refine blk_drewN ?_ _ | refine blk_drew ?_ | refine blk_alloc ?_ _)); refine blk_far ?_ NB118_124.out _; (with_reducible repeat (first | refine blk_drewN ?_ _ | refine blk_drew ?_ | refine blk_alloc ?_ _)); exact BK118.out⟩, ⟨by repeat (first | (with_reducible first | exact HB.out | apply below_alloc | apply pw_below_drewN | apply below_drew1 | refine below_set ?_ GE118.out | refine below_set ?_ GE124.out) | exact HB.out)⟩⟩
      ·rw [if_neg c6] at H
       exact absurd H (by simp)
     ·rw [if_neg c5] at H
      exact absurd H (by simp)
    ·rw [if_neg c4] at H
     have c4b0 : decide (x29_1 < (l0.length : Int)) = false := decide_eq_false c4
     clear c4
     replace H := Option.bind_eq_some_iff.mp H
     obtain ⟨⟨t125, t126, t127, t128⟩, A140, H⟩ := H
     replace H : (some (t125, t126, t127)) = some (r1, r2, r3) := H
     have A14 := Aside0.mk A140
     clear A140
     simp only [Option.some.injEq, Prod.mk.injEq] at H
     obtain ⟨rfl, rfl, rfl⟩ := H
     go_wp2_with (first | (go_at_call 60; (with_reducible refine (cell_Least.calls x3_1 x4_1 x5_1 x6_1 t125 t126 t127 t128 _ A14.out).mono ?_); rintro e w15 ⟨rfl, hb⟩; have n0_ := Aside0.mk (blk_below (g := gb118) (o := .cells #[.int .u32 0, .int .u32 0, .int .i64 0] 41 (0, 0)) (by (with_reducible repeat (first | refine blk_drewN ?_ _ | refine blk_drew ?_ | refine blk_alloc ?_ _)); exact BK118.out) hb); have n1_ := Aside0.mk (below_step (by repeat (first | (with_reducible first | exact HB.out | apply below_alloc | apply pw_below_drewN | apply below_drew1 | refine below_set ?_ GE118.out) | exact HB.out)) hb); clear BK118; clear HB; have BK118 := n0_; have HB := n1_; clear n0_ n1_; (try clear hb); (try clear hb2); (try clear hk); (try clear hi)) | ((with_reducible refine gate_dst (N := 9) rfl ?_); refine box_event ?hg (N := 9) ?hd (cs := #[.int .u32 0, .int .u32 0, .int .i64 0]) (t := 41) ?hr ?_; (case hd => rfl); (case hg => rfl); (case hr => first | (go_simp; done) | (go_simp; rfl)); intro gb129 hg w16 hbox hb; have n0_ := Aside0.mk (blk_below (g := gb118) (o := .cells #[.int .u32 0, .int .u32 0, .int .i64 0] 41 (0, 0)) (by (with_reducible repeat (first | refine blk_drewN ?_ _ | refine blk_drew ?_ | refine blk_alloc ?_ _)); exact BK118.out) hb); have n1_ := Aside0.mk (below_step (by repeat (first | (with_reducible first | exact HB.out | apply below_alloc | apply pw_below_drewN | apply below_drew1 | refine below_set ?_ GE118.out) | exact HB.out)) hb); have n2_ := Aside0.mk (hbox); have n3_ := Aside0.mk ((by rw [hg]; exact (below_size (by repeat (first | (with_reducible first | exact HB.out | apply below_alloc | apply pw_below_drewN | apply below_drew1 | refine below_set ?_ GE118.out) | exact HB.out))) : w.heap.size ≤ gb129)); have n4_ := Aside0.mk ((by rw [hg]; exact (below_size (by repeat (first | (with_reducible first | exact HB.out | apply below_alloc | apply pw_below_drewN | apply below_drew1 | refine below_set ?_ GE118.out) | exact HB.out))) : w.heap.size ≤ gb129)); have n5_ := Aside0.mk ((by rw [hg]; exact Nat.ne_of_lt (blk_lt (g := gb118) (o := .cells #[.int .u32 0, .int .u32 0, .int .i64 0] 41 (0, 0)) (by (with_reducible repeat (first | refine blk_drewN ?_ _ | refine blk_drew ?_ | refine blk_alloc ?_ _)); exact BK118.out)) : gb118 ≠ gb129)); have n6_ := Aside0.mk ((by rw [hg]; exact Nat.ne_of_gt (blk_lt (g := gb118) (o := .cells #[.int .u32 0, .int .u32 0, .int .i64 0] 41 (0, 0)) (by (with_reducible repeat (first | refine blk_drewN ?_ _ | refine blk_drew ?_ | refine blk_alloc ?_ _)); exact BK118.out)) : gb129 ≠ gb118)); clear BK118; clear HB; have BK118 := n0_; have HB := n1_; have BK129 := n2_; have GW129 := n3_; have GE129 := n4_; have NB118_129 := n5_; have NB129_118 := n6_; clear n0_ n1_ n2_ n3_ n4_ n5_ n6_; clear hb hbox hg; have hnb17 := NB129_118.out; have hnc17 := NB118_129.out; have hcz18_0 : w16.cell? ⟨gb129, 0, none⟩ = some (.int .u32 0) := (blk_cell BK129.out 0).trans rfl; have hcz18_1 : w16.cell? ⟨gb129, 1, none⟩ = some (.int .u32 0) := (blk_cell BK129.out 1).trans rfl; have hcz18_2 : w16.cell? ⟨gb129, 2, none⟩ = some (.int .i64 0) := (blk_cell BK129.out 2).trans rfl; have hfz18_0 := blk_frozen BK129.out 0; have hfz18_1 := blk_frozen BK129.out 1; have hfz18_2 := blk_frozen BK129.out 2; have hcz19_0 : w16.cell? ⟨gb118, 0, none⟩ = some (.int .u32 0) := (blk_cell BK118.out 0).trans rfl; have hcz19_1 : w16.cell? ⟨gb118, 1, none⟩ = some (.int .u32 0) := (blk_cell BK118.out 1).trans rfl; have hcz19_2 : w16.cell? ⟨gb118, 2, none⟩ = some (.int .i64 0) := (blk_cell BK118.out 2).trans rfl; have hfz19_0 := blk_frozen BK118.out 0; have hfz19_1 := blk_frozen BK118.out 1; have hfz19_2 := blk_frozen BK118.out 2))
     repeat (go_quiet (first | (go_at_call 60; (with_reducible refine (cell_Least.calls x3_1 x4_1 x5_1 x6_1 t125 t126 t127 t128 _ A14.out).mono ?_); rintro e w15 ⟨rfl, hb⟩; have n0_ := Aside0.mk (blk_below (g := gb118) (o := .cells #[.int .u32 0, .int .u32 0, .int .i64 0] 41 (0, 0)) (by (with_reducible repeat (first | refine blk_drewN ?_ _ | refine blk_drew ?_ | refine blk_alloc ?_ _)); exact BK118.out) hb); have n1_ := Aside0.mk (below_step (by repeat (first | (with_reducible first | exact HB.out | apply below_alloc | apply pw_below_drewN | apply below_drew1 | refine below_set ?_ GE118.out) | exact HB.out)) hb); clear BK118; clear HB; have BK118 := n0_; have HB := n1_; clear n0_ n1_; (try clear hb); (try clear hb2); (try clear hk); (try clear hi)) | ((with_reducible refine gate_dst (N := 9) rfl ?_); refine box_event ?hg (N := 9) ?hd (cs := #[.int .u32 0, .int .u32 0, .int .i64 0]) (t := 41) ?hr ?_; (case hd => rfl); (case hg => rfl); (case hr => first | (go_simp; done) | (go_simp; rfl)); intro gb129 hg w16 hbox hb; have n0_ := Aside0.mk (blk_below (g := gb118) (o := .cells #[.int .u32 0, .int .u32 0, .int .i64 0] 41 (0, 0)) (by (with_reducible repeat (first | refine blk_drewN ?_ _ | refine blk_drew ?_ | refine blk_alloc ?_ _)); exact BK118.out) hb); have n1_ := Aside0.mk (below_step (by repeat (first | (with_reducible first | exact HB.out | apply below_alloc | apply pw_below_drewN | apply below_drew1 | refine below_set ?_ GE118.out) | exact HB.out)) hb); have n2_ := Aside0.mk (hbox); have n3_ := Aside0.mk ((by rw [hg]; exact (below_size (by repeat (first | (with_reducible first | exact HB.out | apply below_alloc | apply pw_below_drewN | apply below_drew1 | refine below_set ?_ GE118.out) | exact HB.out))) : w.heap.size ≤ gb129)); have n4_ := Aside0.mk ((by rw [hg]; exact (below_size (by repeat (first | (with_reducible first | exact HB.out | apply below_alloc | apply pw_below_drewN | apply below_drew1 | refine below_set ?_ GE118.out) | exact HB.out))) : w.heap.size ≤ gb129)); have n5_ := Aside0.mk ((by rw [hg]; exact Nat.ne_of_lt (blk_lt (g := gb118) (o := .cells #[.int .u32 0, .int .u32 0, .int .i64 0] 41 (0, 0)) (by (with_reducible repeat (first | refine blk_drewN ?_ _ | refine blk_drew ?_ | refine blk_alloc ?_ _)); exact BK118.out)) : gb118 ≠ gb129)); have n6_ := Aside0.mk ((by rw [hg]; exact Nat.ne_of_gt (blk_lt (g := gb118) (o := .cells #[.int .u32 0, .int .u32 0, .int .i64 0] 41 (0, 0)) (by (with_reducible repeat (first | refine blk_drewN ?_ _ | refine blk_drew ?_ | refine blk_alloc ?_ _)); exact BK118.out)) : gb129 ≠ gb118)); clear BK118; clear HB; have BK118 := n0_; have HB := n1_; have BK129 := n2_; have GW129 := n3_; have GE129 := n4_; have NB118_129 := n5_; have NB129_118 := n6_; clear n0_ n1_ n2_ n3_ n4_ n5_ n6_; clear hb hbox hg; have hnb17 := NB129_118.out; have hnc17 := NB118_129.out; have hcz18_0 : w16.cell? ⟨gb129, 0, none⟩ = some (.int .u32 0) := (blk_cell BK129.out 0).trans rfl; have hcz18_1 : w16.cell? ⟨gb129, 1, none⟩ = some (.int .u32 0) := (blk_cell BK129.out 1).trans rfl; have hcz18_2 : w16.cell? ⟨gb129, 2, none⟩ = some (.int .i64 0) := (blk_cell BK129.out 2).trans rfl; have hfz18_0 := blk_frozen BK129.out 0; have hfz18_1 := blk_frozen BK129.out 1; have hfz18_2 := blk_frozen BK129.out 2; have hcz19_0 : w16.cell? ⟨gb118, 0, none⟩ = some (.int .u32 0) := (blk_cell BK118.out 0).trans rfl; have hcz19_1 : w16.cell? ⟨gb118, 1, none⟩ = some (.int .u32 0) := (blk_cell BK118.out 1).trans rfl; have hcz19_2 : w16.cell? ⟨gb118, 2, none⟩ = some (.int .i64 0) := (blk_cell BK118.out 2).trans rfl; have hfz19_0 := blk_frozen BK118.out 0; have hfz19_1 := blk_frozen BK118.out 1; have hfz19_2 := blk_frozen BK118.out 2)); try go_wp2_with (first | (go_at_call 60; (with_reducible refine (cell_Least.calls x3_1 x4_1 x5_1 x6_1 t125 t126 t127 t128 _ A14.out).mono ?_); rintro e w15 ⟨rfl, hb⟩; have n0_ := Aside0.mk (blk_below (g := gb118) (o := .cells #[.int .u32 0, .int .u32 0, .int .i64 0] 41 (0, 0)) (by (with_reducible repeat (first | refine blk_drewN ?_ _ | refine blk_drew ?_ | refine blk_alloc ?_ _)); exact BK118.out) hb); have n1_ := Aside0.mk (below_step (by repeat (first | (with_reducible first | exact HB.out | apply below_alloc | apply pw_below_drewN | apply below_drew1 | refine below_set ?_ GE118.out) | exact HB.out)) hb); clear BK118; clear HB; have BK118 := n0_; have HB := n1_; clear n0_ n1_; (try clear hb); (try clear hb2); (try clear hk); (try clear hi)) | ((with_reducible refine gate_dst (N := 9) rfl ?_); refine box_event ?hg (N := 9) ?hd (cs := #[.int .u32 0, .int .u32 0, .int .i64 0]) (t := 41) ?hr ?_; (case hd => rfl); (case hg => rfl); (case hr => first | (go_simp; done) | (go_simp; rfl)); intro gb129 hg w16 hbox hb; have n0_ := Aside0.mk (blk_below (g := gb118) (o := .cells #[.int .u32 0, .int .u32 0, .int .i64 0] 41 (0, 0)) (by (with_reducible repeat (first | refine blk_drewN ?_ _ | refine blk_drew ?_ | refine blk_alloc ?_ _)); exact BK118.out) hb); have n1_ := Aside0.mk (below_step (by repeat (first | (with_reducible first | exact HB.out | apply below_alloc | apply pw_below_drewN | apply below_drew1 | refine below_set ?_ GE118.out) | exact HB.out)) hb); have n2_ := Aside0.mk (hbox); have n3_ := Aside0.mk ((by rw [hg]; exact (below_size (by repeat (first | (with_reducible first | exact HB.out | apply below_alloc | apply pw_below_drewN | apply below_drew1 | refine below_set ?_ GE118.out) | exact HB.out))) : w.heap.size ≤ gb129)); have n4_ := Aside0.mk ((by rw [hg]; exact (below_size (by repeat (first | (with_reducible first | exact HB.out | apply below_alloc | apply pw_below_drewN | apply below_drew1 | refine below_set ?_ GE118.out) | exact HB.out))) : w.heap.size ≤ gb129)); have n5_ := Aside0.mk ((by rw [hg]; exact Nat.ne_of_lt (blk_lt (g := gb118) (o := .cells #[.int .u32 0, .int .u32 0, .int .i64 0] 41 (0, 0)) (by (with_reducible repeat (first | refine blk_drewN ?_ _ | refine blk_drew ?_ | refine blk_alloc ?_ _)); exact BK118.out)) : gb118 ≠ gb129)); have n6_ := Aside0.mk ((by rw [hg]; exact Nat.ne_of_gt (blk_lt (g := gb118) (o := .cells #[.int .u32 0, .int .u32 0, .int .i64 0] 41 (0, 0)) (by (with_reducible repeat (first | refine blk_drewN ?_ _ | refine blk_drew ?_ | refine blk_alloc ?_ _)); exact BK118.out)) : gb129 ≠ gb118)); clear BK118; clear HB; have BK118 := n0_; have HB := n1_; have BK129 := n2_; have GW129 := n3_; have GE129 := n4_; have NB118_129 := n5_; have NB129_118 := n6_; clear n0_ n1_ n2_ n3_ n4_ n5_ n6_; clear hb hbox hg; have hnb17 := NB129_118.out; have hnc17 := NB118_129.out; have hcz18_0 : w16.cell? ⟨gb129, 0, none⟩ = some (.int .u32 0) := (blk_cell BK129.out 0).trans rfl; have hcz18_1 : w16.cell? ⟨gb129, 1, none⟩ = some (.int .u32 0) := (blk_cell BK129.out 1).trans rfl; have hcz18_2 : w16.cell? ⟨gb129, 2, none⟩ = some (.int .i64 0) := (blk_cell BK129.out 2).trans rfl; have hfz18_0 := blk_frozen BK129.out 0; have hfz18_1 := blk_frozen BK129.out 1; have hfz18_2 := blk_frozen BK129.out 2; have hcz19_0 : w16.cell? ⟨gb118, 0, none⟩ = some (.int .u32 0) := (blk_cell BK118.out 0).trans rfl; have hcz19_1 : w16.cell? ⟨gb118, 1, none⟩ = some (.int .u32 0) := (blk_cell BK118.out 1).trans rfl; have hcz19_2 : w16.cell? ⟨gb118, 2, none⟩ = some (.int .i64 0) := (blk_cell BK118.out 2).trans rfl; have hfz19_0 := blk_frozen BK118.out 0; have hfz19_1 := blk_frozen BK118.out 1; have hfz19_2 := blk_frozen BK118.out 2)))
     refine bodyPost_ret (results_cell_row rfl _ _ gb118 41 #[.int .u32 t125, .int .u32 t126, .int .i64 t127] (0, 0) _ rfl (by (with_reducible repeat (first | refine blk_drewN ?_ _ | refine blk_drew ?_ | refine blk_alloc ?_ _)); refine blk_put (cs := #[.int .u32 t125, .int .u32 t126, .int .i64 0]) ?_ 2 _ (by first | rfl | (simp; done)); (with_reducible repeat (first | refine blk_drewN ?_ _ | refine blk_drew ?_ | refine blk_alloc ?_ _)); refine blk_put (cs := #[.int .u32 t125, .int .u32 0, .int .i64 0]) ?_ 1 _ (by first | rfl | (simp; done)); (with_reducible repeat (first | refine blk_drewN ?_ _ | refine blk_drew ?_ | refine blk_alloc ?_ _)); refine blk_put (cs := #[.int .u32 0, .int .u32 0, .int .i64 0]) ?_ 0 _ (by first | rfl | (simp; done)); (with_reducible repeat (first | refine blk_drewN ?_ _ | refine blk_drew ?_ | refine blk_alloc ?_ _)); refine blk_far ?_ NB118_129.out _; (with_reducible repeat (first | refine blk_drewN ?_ _ | refine blk_drew ?_ | refine blk_alloc ?_ _)); refine blk_far ?_ NB118_129.out _; (with_reducible repeat (first | refine blk_drewN ?_ _ | refine blk_drew ?_ | refine blk_alloc ?_ _)); refine blk_far ?_ NB118_129.out _; (with_reducible repeat (first | refine blk_drewN ?_ _ | refine blk_drew ?_ | refine blk_alloc ?_ _)); exact BK118.out) Tryz.underlying41 rfl (by kernel_rfl)) rfl ?_
     exact ⟨by first | rfl | (simp [errW_none, errW_some] <;> rfl) | (simp [*, errW_none, errW_some] <;> rfl), by repeat (first | (with_reducible first | exact HB.out | apply below_alloc | apply pw_below_drewN | apply below_drew1 | refine below_set ?_ GE118.out | refine below_set ?_ GE129.out) | exact HB.out)⟩
 ·rw [if_neg c2] at H
  exact absurd H (by simp)
def cell_size.f (a0_0 : Int) (a0_1 : Int) (a0_2 : Int) : Option (Int) := if 0 ≤ a0_2 then (some (shl .u64 1 a0_2)) else (none)
set_option maxHeartbeats 8000000 in
set_option maxRecDepth 100000 in
theorem cell_size.calls (a0_0 : Int) (a0_1 : Int) (a0_2 : Int) (r : Int) (w : World) (h : cell_size.f a0_0 a0_1 a0_2 = some r) :
  Calls Tryz.prog 77 #[.agg #[.int .u32 a0_0, .int .u32 a0_1, .int .i64 a0_2]] w fun e w' => e = .returned (.int .u64 r) ∧ Below w.heap.size w w' := by
 have hu41 := Tryz.underlying41
 have HB := Aside0.mk (Below.refl w.heap.size w)
 have H : (if 0 ≤ a0_2 then (some (shl .u64 1 a0_2)) else (none)) = some r := h
 clear h
 by_cases c2 : 0 ≤ a0_2
 ·rw [if_pos c2] at H
  have c2b0 := eq_true c2
  have c2b1 : decide (0 ≤ a0_2) = true := decide_eq_true c2
  clear c2
  obtain ⟨ji3, hji3⟩ : ∃ j_ : Int, (shl .u64 1 a0_2) = j_ := ⟨_, rfl⟩
  replace H : (some ji3) = some r := by first | (rw [hji3] at H; exact H) | (simp only [hji3] at H ⊢; exact H)
  have hji3_ : (IntKind.u64.wrap (1 * 2 ^ min a0_2.toNat 64)) = ji3 := hji3
  have hji3z : a0_2 ≤ 64 → (IntKind.u64.wrap (1 * 2 ^ a0_2.toNat)) = ji3 := shl_small hji3
  have hji3u : (IntKind.u64.wrap (2 ^ min a0_2.toNat 64)) = ji3 := by have h_ := hji3_; rw [Int.one_mul] at h_; exact h_
  have hji3v : a0_2 ≤ 64 → (IntKind.u64.wrap (2 ^ a0_2.toNat)) = ji3 := fun hle_ => by have h_ := hji3z hle_; rw [Int.one_mul] at h_; exact h_
  obtain rfl := Option.some.inj H
  go_enter Tryz.func77, Tryz.ntmps77
  go_wp2_with (first | ((with_reducible refine gate_dst (N := 1) rfl ?_); refine box_event ?hg (N := 1) ?hd (cs := #[.int .u32 a0_0, .int .u32 a0_1, .int .i64 a0_2]) (t := 41) ?hr ?_; (case hd => rfl); (case hg => rfl); (case hr => first | (go_simp; done) | (go_simp; rfl)); intro gb130 hg w4 hbox hb; have n0_ := Aside0.mk (below_step (by repeat (first | (with_reducible first | exact HB.out | apply below_alloc | apply pw_below_drewN | apply below_drew1) | exact HB.out)) hb); have n1_ := Aside0.mk (hbox); have n2_ := Aside0.mk ((by rw [hg]; exact (below_size (by repeat (first | (with_reducible first | exact HB.out | apply below_alloc | apply pw_below_drewN | apply below_drew1) | exact HB.out))) : w.heap.size ≤ gb130)); have n3_ := Aside0.mk ((by rw [hg]; exact (below_size (by repeat (first | (with_reducible first | exact HB.out | apply below_alloc | apply pw_below_drewN | apply below_drew1) | exact HB.out))) : w.heap.size ≤ gb130)); clear HB; have HB := n0_; have BK130 := n1_; have GW130 := n2_; have GE130 := n3_; clear n0_ n1_ n2_ n3_; clear hb hbox hg; have hcz5_0 : w4.cell? ⟨gb130, 0, none⟩ = some (.int .u32 a0_0) := (blk_cell BK130.out 0).trans rfl; have hcz5_1 : w4.cell? ⟨gb130, 1, none⟩ = some (.int .u32 a0_1) := (blk_cell BK130.out 1).trans rfl; have hcz5_2 : w4.cell? ⟨gb130, 2, none⟩ = some (.int .i64 a0_2) := (blk_cell BK130.out 2).trans rfl; have hfz5_0 := blk_frozen BK130.out 0; have hfz5_1 := blk_frozen BK130.out 1; have hfz5_2 := blk_frozen BK130.out 2))
  go_ret
  exact ⟨by first | rfl | (simp [errW_none, errW_some] <;> rfl) | (simp only [← hji3]; first | rfl | (simp [errW_none, errW_some] <;> rfl)) | (simp [*, errW_none, errW_some] <;> rfl), by repeat (first | (with_reducible first | exact HB.out | apply below_alloc | apply pw_below_drewN | apply below_drew1 | refine below_set ?_ GE130.out) | exact HB.out)⟩
 ·rw [if_neg c2] at H
  exact absurd H (by simp)
def cell_Right.f (a0_0 : Int) (a0_1 : Int) (a0_2 : Int) : Option (Bool) := if a0_2 < 0 then (some false) else (if a0_2 > 31 then (some false) else ((cell_size.f a0_0 a0_1 a0_2).bind fun t132 => (if (Go.bits .and .u32 (Go.bits .or .u32 a0_0 a0_1) ((IntKind.u64.wrap (t132 - 1)) % 4294967296)) = 0 then (some (decide ((mx a0_0 a0_1) < 2147483648))) else (some false))))
set_option maxHeartbeats 8000000 in
set_option maxRecDepth 100000 in
theorem cell_Right.calls (a0_0 : Int) (a0_1 : Int) (a0_2 : Int) (r : Bool) (w : World) (h : cell_Right.f a0_0 a0_1 a0_2 = some r) :
  Calls Tryz.prog 63 #[.agg #[.int .u32 a0_0, .int .u32 a0_1, .int .i64 a0_2]] w fun e w' => e = .returned (.bool r) ∧ Below w.heap.size w w' := by
 have hu41 := Tryz.underlying41
 have HB := Aside0.mk (Below.refl w.heap.size w)
 have H : (if a0_2 < 0 then (some false) else (if a0_2 > 31 then (some false) else ((cell_size.f a0_0 a0_1 a0_2).bind fun t132 => (if (Go.bits .and .u32 (Go.bits .or .u32 a0_0 a0_1) ((IntKind.u64.wrap (t132 - 1)) % 4294967296)) = 0 then (some (decide ((mx a0_0 a0_1) < 2147483648))) else (some false))))) = some r := h
 clear h
 by_cases c2 : a0_2 < 0
 ·rw [if_pos c2] at H
  have c2b0 : decide (a0_2 < 0) = true := decide_eq_true c2
  clear c2
  obtain rfl := Option.some.inj H
  go_enter Tryz.func63, Tryz.ntmps63
  go_wp2_with (first | ((with_reducible refine gate_dst (N := 1) rfl ?_); (try (refine gate_guard (by rfl) ?_; dsimp only)); refine box_event ?hg (N := 1) ?hd (cs := #[.int .u32 a0_0, .int .u32 a0_1, .int .i64 a0_2]) (t := 41) ?hr ?_; (case hd => rfl); (case hg => rfl); (case hr => first | (go_simp; done) | (go_simp; rfl)); intro gb131 hg w3 hbox hb; have n0_ := Aside0.mk (below_step (by repeat (first | (with_reducible first | exact HB.out | apply below_alloc | apply pw_below_drewN | apply below_drew1) | exact HB.out)) hb); have n1_ := Aside0.mk (hbox); have n2_ := Aside0.mk ((by rw [hg]; exact (below_size (by repeat (first | (with_reducible first | exact HB.out | apply below_alloc | apply pw_below_drewN | apply below_drew1) | exact HB.out))) : w.heap.size ≤ gb131)); have n3_ := Aside0.mk ((by rw [hg]; exact (below_size (by repeat (first | (with_reducible first | exact HB.out | apply below_alloc | apply pw_below_drewN | apply below_drew1) | exact HB.out))) : w.heap.size ≤ gb131)); clear HB; have HB := n0_; have BK131 := n1_; have GW131 := n2_; have GE131 := n3_; clear n0_ n1_ n2_ n3_; clear hb hbox hg; have hcz4_0 : w3.cell? ⟨gb131, 0, none⟩ = some (.int .u32 a0_0) := (blk_cell BK131.out 0).trans rfl; have hcz4_1 : w3.cell? ⟨gb131, 1, none⟩ = some (.int .u32 a0_1) := (blk_cell BK131.out 1).trans rfl; have hcz4_2 : w3.cell? ⟨gb131, 2, none⟩ = some (.int .i64 a0_2) := (blk_cell BK131.out 2).trans rfl; have hfz4_0 := blk_frozen BK131.out 0; have hfz4_1 := blk_frozen BK131.out 1; have hfz4_2 := blk_frozen BK131.out 2))
  go_ret
  exact ⟨by first | rfl | (simp [errW_none, errW_some] <;> rfl) | (simp [*, errW_none, errW_some] <;> rfl), by repeat (first | (with_reducible first | exact HB.out | apply below_alloc | apply pw_below_drewN | apply below_drew1 | refine below_set ?_ GE131.out) | exact HB.out)⟩
 ·rw [if_neg c2] at H
  have c2b0 : decide (a0_2 < 0) = false := decide_eq_false c2
  clear c2
  by_cases c5 : a0_2 > 31
  ·rw [if_pos c5] at H
   have c5b0 : decide (31 < a0_2) = true := decide_eq_true c5
   clear c5
   obtain rfl := Option.some.inj H
   go_enter Tryz.func63, Tryz.ntmps63
   go_wp2_with (first | ((with_reducible refine gate_dst (N := 1) rfl ?_); (try (refine gate_guard (by rfl) ?_; dsimp only)); refine box_event ?hg (N := 1) ?hd (cs := #[.int .u32 a0_0, .int .u32 a0_1, .int .i64 a0_2]) (t := 41) ?hr ?_; (case hd => rfl); (case hg => rfl); (case hr => first | (go_simp; done) | (go_simp; rfl)); intro gb131 hg w6 hbox hb; have n0_ := Aside0.mk (below_step (by repeat (first | (with_reducible first | exact HB.out | apply below_alloc | apply pw_below_drewN | apply below_drew1) | exact HB.out)) hb); have n1_ := Aside0.mk (hbox); have n2_ := Aside0.mk ((by rw [hg]; exact (below_size (by repeat (first | (with_reducible first | exact HB.out | apply below_alloc | apply pw_below_drewN | apply below_drew1) | exact HB.out))) : w.heap.size ≤ gb131)); have n3_ := Aside0.mk ((by rw [hg]; exact (below_size (by repeat (first | (with_reducible first | exact HB.out | apply below_alloc | apply pw_below_drewN | apply below_drew1) | exact HB.out))) : w.heap.size ≤ gb131)); clear HB; have HB := n0_; have BK131 := n1_; have GW131 := n2_; have GE131 := n3_; clear n0_ n1_ n2_ n3_; clear hb hbox hg; have hcz7_0 : w6.cell? ⟨gb131, 0, none⟩ = some (.int .u32 a0_0) := (blk_cell BK131.out 0).trans rfl; have hcz7_1 : w6.cell? ⟨gb131, 1, none⟩ = some (.int .u32 a0_1) := (blk_cell BK131.out 1).trans rfl; have hcz7_2 : w6.cell? ⟨gb131, 2, none⟩ = some (.int .i64 a0_2) := (blk_cell BK131.out 2).trans rfl; have hfz7_0 := blk_frozen BK131.out 0; have hfz7_1 := blk_frozen BK131.out 1; have hfz7_2 := blk_frozen BK131.out 2))
   go_ret
   exact ⟨by first | rfl | (simp [errW_none, errW_some] <;> rfl) | (simp [*, errW_none, errW_some] <;> rfl), by repeat (first | (with_reducible first | exact HB.out | apply below_alloc | apply pw_below_drewN | apply below_drew1 | refine below_set ?_ GE131.out) | exact HB.out)⟩
  ·rw [if_neg c5] at H
   have c5b0 : decide (31 < a0_2) = false := decide_eq_false c5
   clear c5
   replace H := Option.bind_eq_some_iff.mp H
   obtain ⟨t132, A80, H⟩ := H
   replace H : (if (Go.bits .and .u32 (Go.bits .or .u32 a0_0 a0_1) ((IntKind.u64.wrap (t132 - 1)) % 4294967296)) = 0 then (some (decide ((mx a0_0 a0_1) < 2147483648))) else (some false)) = some r := H
   have A8 := Aside0.mk A80
   clear A80
   by_cases c9 : (Go.bits .and .u32 (Go.bits .or .u32 a0_0 a0_1) ((IntKind.u64.wrap (t132 - 1)) % 4294967296)) = 0
   ·rw [if_pos c9] at H
    have c9b0 : ((Go.bits .and .u32 (Go.bits .or .u32 a0_0 a0_1) ((IntKind.u64.wrap (t132 - 1)) % 4294967296)) == 0) = true := beq_iff_eq.mpr c9
    have c9b1 : ((Go.bits .and .u32 (Go.bits .or .u32 a0_0 a0_1) ((IntKind.u64.wrap (t132 - 1)) % 4294967296)) != 0) = false := bne_eq_false_iff_eq.mpr c9
    clear c9
    obtain ⟨ji10, hji10⟩ : ∃ j_ : Int, (mx a0_0 a0_1) = j_ := ⟨_, rfl⟩
    replace H : (some (decide ((ji10) < 2147483648))) = some r := by first | (rw [hji10] at H; exact H) | (simp only [hji10] at H ⊢; exact H)
    (try rw [hji10] at A8)
    have hji10_ : (if a0_0 < a0_1 then a0_1 else a0_0) = ji10 := hji10
    obtain rfl := Option.some.inj H
    go_enter Tryz.func63, Tryz.ntmps63
    go_wp2_with (first | ((with_reducible refine gate_dst (N := 1) rfl ?_); (try (refine gate_guard (by rfl) ?_; dsimp only)); refine box_event ?hg (N := 1) ?hd (cs := #[.int .u32 a0_0, .int .u32 a0_1, .int .i64 a0_2]) (t := 41) ?hr ?_; (case hd => rfl); (case hg => rfl); (case hr => first | (go_simp; done) | (go_simp; rfl)); intro gb131 hg w11 hbox hb; have n0_ := Aside0.mk (below_step (by repeat (first | (with_reducible first | exact HB.out | apply below_alloc | apply pw_below_drewN | apply below_drew1) | exact HB.out)) hb); have n1_ := Aside0.mk (hbox); have n2_ := Aside0.mk ((by rw [hg]; exact (below_size (by repeat (first | (with_reducible first | exact HB.out | apply below_alloc | apply pw_below_drewN | apply below_drew1) | exact HB.out))) : w.heap.size ≤ gb131)); have n3_ := Aside0.mk ((by rw [hg]; exact (below_size (by repeat (first | (with_reducible first | exact HB.out | apply below_alloc | apply pw_below_drewN | apply below_drew1) | exact HB.out))) : w.heap.size ≤ gb131)); clear HB; have HB := n0_; have BK131 := n1_; have GW131 := n2_; have GE131 := n3_; clear n0_ n1_ n2_ n3_; clear hb hbox hg; have hcz12_0 : w11.cell? ⟨gb131, 0, none⟩ = some (.int .u32 a0_0) := (blk_cell BK131.out 0).trans rfl; have hcz12_1 : w11.cell? ⟨gb131, 1, none⟩ = some (.int .u32 a0_1) := (blk_cell BK131.out 1).trans rfl; have hcz12_2 : w11.cell? ⟨gb131, 2, none⟩ = some (.int .i64 a0_2) := (blk_cell BK131.out 2).trans rfl; have hfz12_0 := blk_frozen BK131.out 0; have hfz12_1 := blk_frozen BK131.out 1; have hfz12_2 := blk_frozen BK131.out 2) | ((with_reducible refine gate_callee (f := 77) rfl ?_); refine goesL_ (some 13) rfl rfl Tryz.func77 (by kernel_rfl) rfl #[.agg #[.int .u32 a0_0, .int .u32 a0_1, .int .i64 a0_2]] rfl (by (try simp only [List.map_toArray, List.map_cons, List.map_nil]); first | done | rfl | (simp only [List.length_drop, List.length_take]; rfl)) ?_; (with_reducible refine (cell_size.calls a0_0 a0_1 a0_2 t132 _ A8.out).mono ?_); rintro e w13 ⟨rfl, hb⟩; refine ⟨_, rfl, ?_⟩; have n0_ := Aside0.mk (blk_below (g := gb131) (o := .cells #[.int .u32 a0_0, .int .u32 a0_1, .int .i64 a0_2] 41 (0, 0)) (by (with_reducible repeat (first | refine blk_drewN ?_ _ | refine blk_drew ?_ | refine blk_alloc ?_ _)); exact BK131.out) hb); have n1_ := Aside0.mk (below_step (by repeat (first | (with_reducible first | exact HB.out | apply below_alloc | apply pw_below_drewN | apply below_drew1 | refine below_set ?_ GE131.out) | exact HB.out)) hb); clear BK131; clear HB; have BK131 := n0_; have HB := n1_; clear n0_ n1_; (try clear hb); (try clear hb2); (try clear hk); (try clear hi); have hcz14_0 : w13.cell? ⟨gb131, 0, none⟩ = some (.int .u32 a0_0) := (blk_cell BK131.out 0).trans rfl; have hcz14_1 : w13.cell? ⟨gb131, 1, none⟩ = some (.int .u32 a0_1) := (blk_cell BK131.out 1).trans rfl; have hcz14_2 : w13.cell? ⟨gb131, 2, none⟩ = some (.int .i64 a0_2) := (blk_cell BK131.out 2).trans rfl; have hfz14_0 := blk_frozen BK131.out 0; have hfz14_1 := blk_frozen BK131.out 1; have hfz14_2 := blk_frozen BK131.out 2))
    go_ret
    exact ⟨by first | rfl | (simp [errW_none, errW_some] <;> rfl) | (simp only [← hji10]; first | rfl | (simp [errW_none, errW_some] <;> rfl)) | (simp [*, errW_none, errW_some] <;> rfl), by repeat (first | (with_reducible first | exact HB.out | apply below_alloc | apply pw_below_drewN | apply below_drew1 | refine below_set ?_ GE131.out) | exact HB.out)⟩
   ·rw [if_neg c9] at H
    have c9b0 : ((Go.bits .and .u32 (Go.bits .or .u32 a0_0 a0_1) ((IntKind.u64.wrap (t132 - 1)) % 4294967296)) == 0) = false := beq_eq_false_iff_ne.mpr c9
    have c9b1 : ((Go.bits .and .u32 (Go.bits .or .u32 a0_0 a0_1) ((IntKind.u64.wrap (t132 - 1)) % 4294967296)) != 0) = true := bne_iff_ne.mpr c9
    obtain rfl := Option.some.inj H
    go_enter Tryz.func63, Tryz.ntmps63
    go_wp2_with (first | ((with_reducible refine gate_dst (N := 1) rfl ?_); (try (refine gate_guard (by rfl) ?_; dsimp only)); refine box_event ?hg (N := 1) ?hd (cs := #[.int .u32 a0_0, .int .u32 a0_1, .int .i64 a0_2]) (t := 41) ?hr ?_; (case hd => rfl); (case hg => rfl); (case hr => first | (go_simp; done) | (go_simp; rfl)); intro gb131 hg w15 hbox hb; have n0_ := Aside0.mk (below_step (by repeat (first | (with_reducible first | exact HB.out | apply below_alloc | apply pw_below_drewN | apply below_drew1) | exact HB.out)) hb); have n1_ := Aside0.mk (hbox); have n2_ := Aside0.mk ((by rw [hg]; exact (below_size (by repeat (first | (with_reducible first | exact HB.out | apply below_alloc | apply pw_below_drewN | apply below_drew1) | exact HB.out))) : w.heap.size ≤ gb131)); have n3_ := Aside0.mk ((by rw [hg]; exact (below_size (by repeat (first | (with_reducible first | exact HB.out | apply below_alloc | apply pw_below_drewN | apply below_drew1) | exact HB.out))) : w.heap.size ≤ gb131)); clear HB; have HB := n0_; have BK131 := n1_; have GW131 := n2_; have GE131 := n3_; clear n0_ n1_ n2_ n3_; clear hb hbox hg; have hcz16_0 : w15.cell? ⟨gb131, 0, none⟩ = some (.int .u32 a0_0) := (blk_cell BK131.out 0).trans rfl; have hcz16_1 : w15.cell? ⟨gb131, 1, none⟩ = some (.int .u32 a0_1) := (blk_cell BK131.out 1).trans rfl; have hcz16_2 : w15.cell? ⟨gb131, 2, none⟩ = some (.int .i64 a0_2) := (blk_cell BK131.out 2).trans rfl; have hfz16_0 := blk_frozen BK131.out 0; have hfz16_1 := blk_frozen BK131.out 1; have hfz16_2 := blk_frozen BK131.out 2) | ((with_reducible refine gate_callee (f := 77) rfl ?_); refine goesL_ (some 13) rfl rfl Tryz.func77 (by kernel_rfl) rfl #[.agg #[.int .u32 a0_0, .int .u32 a0_1, .int .i64 a0_2]] rfl (by (try simp only [List.map_toArray, List.map_cons, List.map_nil]); first | done | rfl | (simp only [List.length_drop, List.length_take]; rfl)) ?_; (with_reducible refine (cell_size.calls a0_0 a0_1 a0_2 t132 _ A8.out).mono ?_); rintro e w17 ⟨rfl, hb⟩; refine ⟨_, rfl, ?_⟩; have n0_ := Aside0.mk (blk_below (g := gb131) (o := .cells #[.int .u32 a0_0, .int .u32 a0_1, .int .i64 a0_2] 41 (0, 0)) (by (with_reducible repeat (first | refine blk_drewN ?_ _ | refine blk_drew ?_ | refine blk_alloc ?_ _)); exact BK131.out) hb); have n1_ := Aside0.mk (below_step (by repeat (first | (with_reducible first | exact HB.out | apply below_alloc | apply pw_below_drewN | apply below_drew1 | refine below_set ?_ GE131.out) | exact HB.out)) hb); clear BK131; clear HB; have BK131 := n0_; have HB := n1_; clear n0_ n1_; (try clear hb); (try clear hb2); (try clear hk); (try clear hi); have hcz18_0 : w17.cell? ⟨gb131, 0, none⟩ = some (.int .u32 a0_0) := (blk_cell BK131.out 0).trans rfl; have hcz18_1 : w17.cell? ⟨gb131, 1, none⟩ = some (.int .u32 a0_1) := (blk_cell BK131.out 1).trans rfl; have hcz18_2 : w17.cell? ⟨gb131, 2, none⟩ = some (.int .i64 a0_2) := (blk_cell BK131.out 2).trans rfl; have hfz18_0 := blk_frozen BK131.out 0; have hfz18_1 := blk_frozen BK131.out 1; have hfz18_2 := blk_frozen BK131.out 2))
    go_ret
    exact ⟨by first | rfl | (simp [errW_none, errW_some] <;> rfl) | (simp [*, errW_none, errW_some] <;> rfl), by repeat (first | (with_reducible first | exact HB.out | apply below_alloc | apply pw_below_drewN | apply below_drew1 | refine below_set ?_ GE131.out) | exact HB.out)⟩
attribute [local go_sem] Oper.semAt_some
abbrev qEncs (p : Int × Int × Int × Int) : Array Value := #[.int .i64 p.1, .agg #[.int .u32 p.2.1, .int .u32 p.2.2.1, .int .i64 p.2.2.2]]
def qAt (x y l m : Int) : Nat → Int × Int × Int × Int
 | 0 => (0, x, y, l - 1)
 | 1 => (1, x + m, y, l - 1)
 | 2 => (2, x, y + m, l - 1)
 | _ => (3, x + m, y + m, l - 1)
def qList (x y l : Int) : List (Int × Int × Int × Int) := if cell_Right.f x y l = some true ∧ l ≠ 0 then (List.range 4).map (qAt x y l (shl .u64 1 l / 2)) else []
set_option maxRecDepth 100000 in
set_option maxHeartbeats 4000000 in
theorem cell_quarters.go (l' Bc n₀ : Nat) (x y l t : Int) (hl : 0 < l) (hl1 : l ≤ 31) (hx : 0 ≤ x ∧ x < 2147483648) (hy : 0 ≤ y ∧ y < 2147483648) (ht : 2 ≤ t ∧ t ≤ 2147483648) (hS : cell_size.f x y l = some t) (hR : cell_Right.f x y l = some true) (J Jx : List (Int × Int × Int × Int) → World → Prop)
  (hY : ∀ pre q W, J pre W → pre.length < 4 → YieldAt Fence.wide 7 Tryz.prog l' (qEncs q) W fun e W' =>
   (e = .returned (.bool true) ∧ J (pre ++ [q]) W' ∧ Below n₀ W W') ∨ (e = .returned (.bool false) ∧ Jx (pre ++ [q]) W'))
  (W : World) (hB : Bc < n₀) (hn₀ : n₀ ≤ W.heap.size) (hc : ∀ W', Below n₀ W W' → W'.cell? ⟨Bc, 0, none⟩ = some (.int .u32 x) ∧ W'.cell? ⟨Bc, 1, none⟩ = some (.int .u32 y) ∧ W'.cell? ⟨Bc, 2, none⟩ = some (.int .i64 l)) (h0 : J [] W)
  (hJa : AbidesFrom W.heap.size J) :
  CallsIn Fence.wide 8 Tryz.prog 76 #[.func (.yield l') #[] #[], .pointer (some ⟨Bc, 0, none⟩)] W fun e W' => (∃ v, e = .returned v) ∧
   ((∃ ys, ys = (List.range 4).map (qAt x y l (t / 2)) ∧ J ys W') ∨ (∃ pre, pre <+: (List.range 4).map (qAt x y l (t / 2)) ∧ Jx pre W')) := by
 refine callsIn_of_wp Tryz.func76 rfl trivial ?_ rfl
 simp only [Tryz.ntmps76, List.size_toArray, List.length_cons, List.length_nil, Nat.reduceAdd, Nat.reduceSub, Array.replicate_succ, Array.replicate_zero, List.push_toArray, List.append_toArray, List.nil_append, List.cons_append]
 obtain ⟨c0, c1, c2⟩ := hc W (Below.refl _ _)
 obtain ⟨hx0, hx1⟩ := hx
 obtain ⟨hy0, hy1⟩ := hy
 obtain ⟨ht0, ht1⟩ := ht
 have HR := Aside0.mk hR
 have HS := Aside0.mk hS
 have f13 : Fence.wide.fn 63 := trivial
 have f35 : Fence.wide.fn 77 := trivial
 have hne : (l == 0) = false := beq_eq_false_iff_ne.2 (by omega)
 have HC := Aside0.mk hc
 have HJ := Aside0.mk hJa
 clear hR hc hJa hS
 have hJt : ∀ pre (A B : World), J pre A → Below A.heap.size A B → J pre B := fun pre A B hA hAB => HJ.out pre A B none hA (grown_of_below hAB none) (by simp)
 have HJt := Aside0.mk hJt
 have HY := Aside0.mk hY
 clear hJt hY
 gi_wp2_with (first | (gi_at_call 63; refine (callsIn_wide.2 (cell_Right.calls x y l true _ HR.out)).mono ?_; rintro e w1 ⟨rfl, hb1⟩; obtain ⟨hc1, hf1⟩ := bcell hb1; have k0 := (hc1 Bc 0 (by omega)).trans c0; have k1 := (hc1 Bc 1 (by omega)).trans c1; have k2 := (hc1 Bc 2 (by omega)).trans c2; clear hc1 hf1) | (gi_at_call 77; refine (callsIn_wide.2 (cell_size.calls x y l _ _ HS.out)).mono ?_; rintro e w2 ⟨rfl, hb2⟩))
 have HB2 := Aside0.mk (below_call hb1 hb2)
 clear c0 c1 c2 k0 k1 k2 hb1 hb2
 have i0 : ∀ w, (Instr.index 114 (.agg #[.int .u32 0, .int .u32 0, .int .u32 1, .int .u32 0, .int .u32 0, .int .u32 1, .int .u32 1, .int .u32 1]) (.int .i64 0)).run Tryz.prog w = .ok (.agg #[.int .u32 0, .int .u32 0]) w := fun _ => by kernel_rfl
 have i1 : ∀ w, (Instr.index 114 (.agg #[.int .u32 0, .int .u32 0, .int .u32 1, .int .u32 0, .int .u32 0, .int .u32 1, .int .u32 1, .int .u32 1]) (.int .i64 1)).run Tryz.prog w = .ok (.agg #[.int .u32 1, .int .u32 0]) w := fun _ => by kernel_rfl
 have i2 : ∀ w, (Instr.index 114 (.agg #[.int .u32 0, .int .u32 0, .int .u32 1, .int .u32 0, .int .u32 0, .int .u32 1, .int .u32 1, .int .u32 1]) (.int .i64 2)).run Tryz.prog w = .ok (.agg #[.int .u32 0, .int .u32 1]) w := fun _ => by kernel_rfl
 have i3 : ∀ w, (Instr.index 114 (.agg #[.int .u32 0, .int .u32 0, .int .u32 1, .int .u32 0, .int .u32 0, .int .u32 1, .int .u32 1, .int .u32 1]) (.int .i64 3)).run Tryz.prog w = .ok (.agg #[.int .u32 1, .int .u32 1]) w := fun _ => by kernel_rfl
 gi_loopw [23] (fun i wr => ∃ k : Nat, k ≤ 4 ∧ i = .int .i64 k ∧ Aside0 (J ((List.range k).map (qAt x y l (t / 2))) wr) ∧ Aside0 (Below n₀ W wr))
  (fun i _ => 4 - (intOf i).toNat)
 case atStart => exact ⟨0, Nat.zero_le _, rfl, ⟨HJt.out _ _ _ h0 HB2.out⟩, ⟨HB2.out.mono hn₀⟩⟩
 case round =>
  obtain ⟨k, hk, rfl, hJs, hnx⟩ := hrel
  have hn2 : n₀ ≤ wr.heap.size := Nat.le_trans hn₀ hnx.out.size
  have hk5 : k = 0 ∨ k = 1 ∨ k = 2 ∨ k = 3 ∨ k = 4 := by omega
  rcases hk5 with rfl | rfl | rfl | rfl | rfl
  ·obtain ⟨c0, c1, c2⟩ := HC.out _ (hnx.out.alloc hn2 (.cells #[.int .u32 0, .int .u32 0] 113))
   obtain ⟨fn, tmps, assign, body, hy, hR⟩ := HY.out _ (qAt x y l (t / 2) 0) (wr.alloc (.cells #[.int .u32 0, .int .u32 0] 113)) (HJt.out _ _ _ hJs.out ((Below.refl _ _).alloc (Nat.le_refl _) _)) (by simp)
   dsimp only [qEncs, qAt] at hy
   gi_wp2_with fail
   refine hR.mono ?_
   rintro e W3 (⟨rfl, hJ3, hk3⟩ | ⟨rfl, hJx3⟩)
   ·have HJ3 := Aside0.mk hJ3
    have HK3 := Aside0.mk hk3
    clear hJ3 hk3 hy hR c0 c1 c2
    gi_wp2_with fail
    go_roundw
    case rel => exact ⟨0 + 1, by omega, by simp, ⟨by rw [List.range_succ, List.map_append]; exact HJ3.out⟩, ⟨(hnx.out.alloc hn2 _).trans HK3.out⟩⟩
    case measure => simp [intOf]
   ·have HJ3 := Aside0.mk hJx3
    clear hJx3 hy hR c0 c1 c2
    gi_wp2_with fail
    refine bodyPost_ret (results_none rfl _ _ _) rfl ?_
    exact ⟨⟨_, rfl⟩, .inr ⟨_, by rw [show [qAt x y l (t / 2) 0] = List.map (qAt x y l (t / 2)) [0] from rfl, ← List.map_append, ← List.range_succ]; exact List.IsPrefix.map _ (by decide), HJ3.out⟩⟩
  ·obtain ⟨c0, c1, c2⟩ := HC.out _ (hnx.out.alloc hn2 (.cells #[.int .u32 1, .int .u32 0] 113))
   obtain ⟨fn, tmps, assign, body, hy, hR⟩ := HY.out _ (qAt x y l (t / 2) 1) (wr.alloc (.cells #[.int .u32 1, .int .u32 0] 113)) (HJt.out _ _ _ hJs.out ((Below.refl _ _).alloc (Nat.le_refl _) _)) (by simp)
   dsimp only [qEncs, qAt] at hy
   gi_wp2_with fail
   refine hR.mono ?_
   rintro e W3 (⟨rfl, hJ3, hk3⟩ | ⟨rfl, hJx3⟩)
   ·have HJ3 := Aside0.mk hJ3
    have HK3 := Aside0.mk hk3
    clear hJ3 hk3 hy hR c0 c1 c2
    gi_wp2_with fail
    go_roundw
    case rel => exact ⟨1 + 1, by omega, by simp, ⟨by rw [List.range_succ, List.map_append]; exact HJ3.out⟩, ⟨(hnx.out.alloc hn2 _).trans HK3.out⟩⟩
    case measure => simp [intOf]
   ·have HJ3 := Aside0.mk hJx3
    clear hJx3 hy hR c0 c1 c2
    gi_wp2_with fail
    refine bodyPost_ret (results_none rfl _ _ _) rfl ?_
    exact ⟨⟨_, rfl⟩, .inr ⟨_, by rw [show [qAt x y l (t / 2) 1] = List.map (qAt x y l (t / 2)) [1] from rfl, ← List.map_append, ← List.range_succ]; exact List.IsPrefix.map _ (by decide), HJ3.out⟩⟩
  ·obtain ⟨c0, c1, c2⟩ := HC.out _ (hnx.out.alloc hn2 (.cells #[.int .u32 0, .int .u32 1] 113))
   obtain ⟨fn, tmps, assign, body, hy, hR⟩ := HY.out _ (qAt x y l (t / 2) 2) (wr.alloc (.cells #[.int .u32 0, .int .u32 1] 113)) (HJt.out _ _ _ hJs.out ((Below.refl _ _).alloc (Nat.le_refl _) _)) (by simp)
   dsimp only [qEncs, qAt] at hy
   gi_wp2_with fail
   refine hR.mono ?_
   rintro e W3 (⟨rfl, hJ3, hk3⟩ | ⟨rfl, hJx3⟩)
   ·have HJ3 := Aside0.mk hJ3
    have HK3 := Aside0.mk hk3
    clear hJ3 hk3 hy hR c0 c1 c2
    gi_wp2_with fail
    go_roundw
    case rel => exact ⟨2 + 1, by omega, by simp, ⟨by rw [List.range_succ, List.map_append]; exact HJ3.out⟩, ⟨(hnx.out.alloc hn2 _).trans HK3.out⟩⟩
    case measure => simp [intOf]
   ·have HJ3 := Aside0.mk hJx3
    clear hJx3 hy hR c0 c1 c2
    gi_wp2_with fail
    refine bodyPost_ret (results_none rfl _ _ _) rfl ?_
    exact ⟨⟨_, rfl⟩, .inr ⟨_, by rw [show [qAt x y l (t / 2) 2] = List.map (qAt x y l (t / 2)) [2] from rfl, ← List.map_append, ← List.range_succ]; exact List.IsPrefix.map _ (by decide), HJ3.out⟩⟩
  ·obtain ⟨c0, c1, c2⟩ := HC.out _ (hnx.out.alloc hn2 (.cells #[.int .u32 1, .int .u32 1] 113))
   obtain ⟨fn, tmps, assign, body, hy, hR⟩ := HY.out _ (qAt x y l (t / 2) 3) (wr.alloc (.cells #[.int .u32 1, .int .u32 1] 113)) (HJt.out _ _ _ hJs.out ((Below.refl _ _).alloc (Nat.le_refl _) _)) (by simp)
   dsimp only [qEncs, qAt] at hy
   gi_wp2_with fail
   refine hR.mono ?_
   rintro e W3 (⟨rfl, hJ3, hk3⟩ | ⟨rfl, hJx3⟩)
   ·have HJ3 := Aside0.mk hJ3
    have HK3 := Aside0.mk hk3
    clear hJ3 hk3 hy hR c0 c1 c2
    gi_wp2_with fail
    go_roundw
    case rel => exact ⟨3 + 1, by omega, by simp, ⟨by rw [List.range_succ, List.map_append]; exact HJ3.out⟩, ⟨(hnx.out.alloc hn2 _).trans HK3.out⟩⟩
    case measure => simp [intOf]
   ·have HJ3 := Aside0.mk hJx3
    clear hJx3 hy hR c0 c1 c2
    gi_wp2_with fail
    refine bodyPost_ret (results_none rfl _ _ _) rfl ?_
    exact ⟨⟨_, rfl⟩, .inr ⟨_, by rw [show [qAt x y l (t / 2) 3] = List.map (qAt x y l (t / 2)) [3] from rfl, ← List.map_append, ← List.range_succ]; exact List.IsPrefix.map _ (by decide), HJ3.out⟩⟩
  ·gi_wp2_with fail
   go_end0
   exact ⟨⟨_, rfl⟩, .inl ⟨_, rfl, hJs.out⟩⟩
theorem cell_Right.tot (x y l : Int) : ∃ b, cell_Right.f x y l = some b := by
 unfold cell_Right.f cell_size.f
 by_cases h1 : l < 0
 ·exact ⟨_, if_pos h1⟩
 ·rw [if_neg h1]
  by_cases h2 : l > 31
  ·exact ⟨_, if_pos h2⟩
  ·rw [if_neg h2, if_pos (by omega)]
   simp only [Option.bind_some]
   split <;> exact ⟨_, rfl⟩
theorem cell_Right.bd {x y l : Int} (h : cell_Right.f x y l = some true) : 0 ≤ l ∧ l ≤ 31 ∧ x < 2147483648 ∧ y < 2147483648 := by
 unfold cell_Right.f cell_size.f at h
 by_cases h1 : l < 0
 ·rw [if_pos h1] at h; simp at h
 ·rw [if_neg h1] at h
  by_cases h2 : l > 31
  ·rw [if_pos h2] at h; simp at h
  ·rw [if_neg h2, if_pos (by omega)] at h
   simp only [Option.bind_some] at h
   split at h
   ·have := Option.some.inj h
    have := of_decide_eq_true this
    unfold mx at this
    omega
   ·simp at h
theorem shl_pow (l : Int) (h0 : 0 ≤ l) (h1 : l ≤ 31) : shl .u64 1 l = 2 ^ l.toNat := by
 obtain ⟨n, rfl⟩ := Int.eq_ofNat_of_zero_le h0
 have hn : n ≤ 31 := by omega
 unfold shl
 simp only [Int.toNat_natCast]
 have : n = 0 ∨ n = 1 ∨ n = 2 ∨ n = 3 ∨ n = 4 ∨ n = 5 ∨ n = 6 ∨ n = 7 ∨ n = 8 ∨ n = 9 ∨ n = 10 ∨ n = 11 ∨ n = 12 ∨ n = 13 ∨ n = 14 ∨ n = 15 ∨ n = 16 ∨ n = 17 ∨ n = 18 ∨ n = 19 ∨ n = 20 ∨ n = 21 ∨ n = 22 ∨ n = 23 ∨ n = 24 ∨ n = 25 ∨ n = 26 ∨ n = 27 ∨ n = 28 ∨ n = 29 ∨ n = 30 ∨ n = 31 := by omega
 rcases this with rfl|rfl|rfl|rfl|rfl|rfl|rfl|rfl|rfl|rfl|rfl|rfl|rfl|rfl|rfl|rfl|rfl|rfl|rfl|rfl|rfl|rfl|rfl|rfl|rfl|rfl|rfl|rfl|rfl|rfl|rfl|rfl <;> decide +kernel
theorem two_pow (n : Nat) : (2 : Int) ^ n = ((2 ^ n : Nat) : Int) := by simp
theorem shl_bd (l : Int) (h0 : 1 ≤ l) (h1 : l ≤ 31) : 2 ≤ shl .u64 1 l ∧ shl .u64 1 l ≤ 2147483648 := by
 rw [shl_pow l (by omega) h1]
 obtain ⟨n, rfl⟩ := Int.eq_ofNat_of_zero_le (show 0 ≤ l by omega)
 simp only [Int.toNat_natCast]
 have a1 : 2 ^ 1 ≤ 2 ^ n := Nat.pow_le_pow_right (by decide) (by omega)
 have a2 : 2 ^ n ≤ 2 ^ 31 := Nat.pow_le_pow_right (by decide) (by omega)
 rw [two_pow]
 omega
set_option maxRecDepth 100000 in
set_option maxHeartbeats 4000000 in
theorem cell_quarters.no (l' Bc : Nat) (x y l : Int) (b : Bool) (hR : cell_Right.f x y l = some b) (hb : b = false ∨ l = 0)
  (W : World) (hB : Bc < W.heap.size) (c0 : W.cell? ⟨Bc, 0, none⟩ = some (.int .u32 x)) (c1 : W.cell? ⟨Bc, 1, none⟩ = some (.int .u32 y)) (c2 : W.cell? ⟨Bc, 2, none⟩ = some (.int .i64 l)) :
  CallsIn Fence.wide 8 Tryz.prog 76 #[.func (.yield l') #[] #[], .pointer (some ⟨Bc, 0, none⟩)] W fun e W' => (∃ v, e = .returned v) ∧ Below W.heap.size W W' := by
 refine callsIn_of_wp Tryz.func76 rfl trivial ?_ rfl
 simp only [Tryz.ntmps76, List.size_toArray, List.length_cons, List.length_nil, Nat.reduceAdd, Nat.reduceSub, Array.replicate_succ, Array.replicate_zero, List.push_toArray, List.append_toArray, List.nil_append, List.cons_append]
 have HR := Aside0.mk hR
 have f13 : Fence.wide.fn 63 := trivial
 clear hR
 cases b with
 | false =>
  clear hb
  gi_wp2_with (gi_at_call 63; refine (callsIn_wide.2 (cell_Right.calls x y l false _ HR.out)).mono ?_; rintro e w1 ⟨rfl, hb1⟩)
  refine bodyPost_ret (results_none rfl _ _ _) rfl ?_
  exact ⟨⟨_, rfl⟩, hb1⟩
 | true =>
  obtain rfl : l = 0 := by simpa using hb
  clear hb
  gi_wp2_with (gi_at_call 63; refine (callsIn_wide.2 (cell_Right.calls x y 0 true _ HR.out)).mono ?_; rintro e w1 ⟨rfl, hb1⟩; obtain ⟨hc1, hf1⟩ := bcell hb1; have k0 := (hc1 Bc 0 (by omega)).trans c0; have k1 := (hc1 Bc 1 (by omega)).trans c1; have k2 := (hc1 Bc 2 (by omega)).trans c2; clear hc1 hf1)
  refine bodyPost_ret (results_none rfl _ _ _) rfl ?_
  exact ⟨⟨_, rfl⟩, hb1⟩
theorem cell_quarters.stops (Bc n₀ : Nat) (x y l : Int) (hx : 0 ≤ x) (hy : 0 ≤ y) (w : World) (hB : Bc < n₀) (hn₀ : n₀ ≤ w.heap.size)
  (c0 : w.cell? ⟨Bc, 0, none⟩ = some (.int .u32 x)) (c1 : w.cell? ⟨Bc, 1, none⟩ = some (.int .u32 y)) (c2 : w.cell? ⟨Bc, 2, none⟩ = some (.int .i64 l)) :
  SeqStopsK Fence.wide 8 Tryz.prog 76 #[.pointer (some ⟨Bc, 0, none⟩)] qEncs (Below n₀) (fun ys => ys = qList x y l) (fun pre => pre <+: qList x y l) 4 w := fun l' J Jx W hW hJ _ hY h0 => by
 have hlt : Bc < w.heap.size := by omega
 have d0 := (hW.cell (p := ⟨Bc, 0, none⟩) hlt).trans c0
 have d1 := (hW.cell (p := ⟨Bc, 1, none⟩) hlt).trans c1
 have d2 := (hW.cell (p := ⟨Bc, 2, none⟩) hlt).trans c2
 obtain ⟨b, hR⟩ := cell_Right.tot x y l
 by_cases hh : b = true ∧ l ≠ 0
 ·obtain ⟨rfl, hl⟩ := hh
  obtain ⟨b0, b1, b2, b3⟩ := cell_Right.bd hR
  obtain ⟨s0, s1⟩ := shl_bd l (by omega) b1
  have hq : qList x y l = (List.range 4).map (qAt x y l (shl .u64 1 l / 2)) := by unfold qList; rw [if_pos ⟨hR, hl⟩]
  rw [hq]
  refine cell_quarters.go l' Bc n₀ x y l (shl .u64 1 l) (by omega) b1 ⟨hx, b2⟩ ⟨hy, b3⟩ ⟨s0, s1⟩ (by unfold cell_size.f; rw [if_pos b0]) hR J Jx hY W hB (Nat.le_trans hn₀ hW.size) (fun W' hW' => ?_) h0 hJ
  exact ⟨(hW'.cell (p := ⟨Bc, 0, none⟩) hB).trans d0, (hW'.cell (p := ⟨Bc, 1, none⟩) hB).trans d1, (hW'.cell (p := ⟨Bc, 2, none⟩) hB).trans d2⟩
 ·have hq : qList x y l = [] := by
   unfold qList; rw [if_neg]; rintro ⟨h1, h2⟩; rw [hR] at h1; exact hh ⟨Option.some.inj h1, h2⟩
  rw [hq]
  refine (cell_quarters.no l' Bc x y l b hR ?_ W (Nat.lt_of_lt_of_le hlt hW.size) d0 d1 d2).mono ?_
  ·cases b with
   | false => exact .inl rfl
   | true => exact .inr (by simpa using hh)
  ·rintro e W' ⟨he, hb⟩
   exact ⟨he, .inl ⟨[], rfl, hJ [] W W' none h0 (grown_of_below hb none) (by simp)⟩⟩
theorem qList_pos {x y l : Int} {q : Int × Int × Int × Int} (h : q ∈ qList x y l) : 0 ≤ q.1 := by
 unfold qList at h
 split at h
 ·rw [List.mem_map] at h
  obtain ⟨k, hk, rfl⟩ := h
  have : k = 0 ∨ k = 1 ∨ k = 2 ∨ k = 3 := by have := List.mem_range.1 hk; omega
  rcases this with rfl | rfl | rfl | rfl <;> simp [qAt]
 ·simp at h
attribute [local go_sem] Oper.semAt_some
set_option maxHeartbeats 1000000 in
theorem cell_quarters.calls (x y l : Int) (w : World) :
  CallsIn Fence.wide 8 Tryz.prog 61 #[.agg #[.int .u32 x, .int .u32 y, .int .i64 l]] w fun e w' =>
   e = .returned (.func (.func 76) #[] #[.pointer (some ⟨w.heap.size, 0, none⟩)]) ∧ w.alloc (.cells #[.int .u32 x, .int .u32 y, .int .i64 l] 41) = w' := by
 refine callsIn_of_wp Tryz.func61 rfl trivial ?_ rfl
 simp only [Tryz.ntmps61, List.size_toArray, List.length_cons, List.length_nil, Nat.reduceAdd, Nat.reduceSub, Array.replicate_succ, Array.replicate_zero, List.push_toArray, List.append_toArray, List.nil_append, List.cons_append]
 gi_wp2
 go_ret
 exact ⟨rfl, rfl⟩
end Go.Proofs.YtoimgijhekahhaaGreat.P

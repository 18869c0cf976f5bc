/- The law CellBoxes returns true, whatever the input, and its arguments read behind the call as they read before. No condition. -/
import Derived.Test.YtnpnmbfbdnbeoaaRows
import Derived.Test.YtnpnmbfbdnbeoaaPx21
import Derived.Test.YtnpnmbfbdnbeoaaPureCellBoxes
import Derived.WalkKit
import Derived.ProofKit
import Derived.OpenShut
import Derived.ShutString
import Derived.ChangeOld
import Derived.Below
import Derived.SizedLaws
import Derived.Lib.SmallJoins
namespace Go.Proofs.Ytnpnmbfbdnbeoaa.cellBoxes
open Go.ChangeShapes Go.WideShapes Go.ChangeAt Go.RowKit
set_option linter.unusedVariables false
theorem own : ownKnob Try.prog.godebug = none := by kernel_rfl
theorem laidOut : laidOutB Try.prog = true := by kernel_rfl
theorem openT24 {W : World} {H : Type} {enc : TypeId × Value → H} {b0 base : Nat} {sp : Nat → Bool} {hd : Bool} {v : Value} {d : DataW H} {p : List MemPlace}
    (hv : Value.okWide Try.prog W .any b0 24 v) (h : DataW.Trod enc Try.prog W base sp hd 24 v d p) :
    ∃ a0 a1 a2 : Int, v = .agg #[.int .u32 a0, .int .u32 a1, .int .i64 a2] ∧ (Lit.int .u32 a0).wf = true ∧ (Lit.int .u32 a1).wf = true ∧ (Lit.int .i64 a2).wf = true := by
  obtain ⟨v0, v1, v2, y0, y1, y2, n, rfl, _, _, g0, g1, g2⟩ := Go.Joins.open_agg3 Try.underlying24 (by kernel_rfl) (by kernel_rfl) hv h
  obtain ⟨a0, e0, _, w0⟩ := DataW.trod_int Try.underlying22 g0
  obtain ⟨a1, e1, _, w1⟩ := DataW.trod_int Try.underlying22 g1
  obtain ⟨a2, e2, _, w2⟩ := DataW.trod_int Try.underlying3 g2
  obtain rfl : v0 = .int .u32 a0 := by simpa using e0
  obtain rfl : v1 = .int .u32 a1 := by simpa using e1
  obtain rfl : v2 = .int .i64 a2 := by simpa using e2
  exact ⟨a0, a1, a2, rfl, w0, w1, w2⟩
theorem openT26 {W : World} {H : Type} {enc : TypeId × Value → H} {b0 base : Nat} {sp : Nat → Bool} {hd : Bool} {v : Value} {d : DataW H} {p : List MemPlace}
    (hv : Value.okWide Try.prog W .any b0 26 v) (h : DataW.Trod enc Try.prog W base sp hd 26 v d p) :
    ∃ a0 a1 a2 a3 : Int, v = .agg #[.int .u32 a0, .int .u32 a1, .int .u32 a2, .int .u32 a3] ∧ (Lit.int .u32 a0).wf = true ∧ (Lit.int .u32 a1).wf = true ∧ (Lit.int .u32 a2).wf = true ∧ (Lit.int .u32 a3).wf = true := by
  obtain ⟨v0, v1, v2, v3, y0, y1, y2, y3, n, rfl, _, _, g0, g1, g2, g3⟩ := Go.Joins.open_agg4 Try.underlying26 (by kernel_rfl) (by kernel_rfl) hv h
  obtain ⟨a0, e0, _, w0⟩ := DataW.trod_int Try.underlying22 g0
  obtain ⟨a1, e1, _, w1⟩ := DataW.trod_int Try.underlying22 g1
  obtain ⟨a2, e2, _, w2⟩ := DataW.trod_int Try.underlying22 g2
  obtain ⟨a3, e3, _, w3⟩ := DataW.trod_int Try.underlying22 g3
  obtain rfl : v0 = .int .u32 a0 := by simpa using e0
  obtain rfl : v1 = .int .u32 a1 := by simpa using e1
  obtain rfl : v2 = .int .u32 a2 := by simpa using e2
  obtain rfl : v3 = .int .u32 a3 := by simpa using e3
  exact ⟨a0, a1, a2, a3, rfl, w0, w1, w2, w3⟩
set_option maxRecDepth 100000 in
theorem lifted (os : Os) (started : os.Started) (H : Type) (enc : TypeId × Value → H) :
    ReturnsInHanded {} Try.checked os 10 .any (Rows.cellBoxesSpec.pre6 enc Try.prog Try.f10 Rows.cellBoxesRow.domain false) (Rows.cellBoxesSpec.post enc Try.prog Try.f10 false true false false) := by
  refine returnsInHanded_of_change_sized (C := Try.checked) own started (by kernel_rfl) Try.func10
    (ChangeSpec.witness6 (enc := enc) (C := Try.checked) false ⟨#[], #[.agg #[.int .u32 0, .int .u32 0, .int .i64 0], .agg #[.int .u32 0, .int .u32 0, .int .u32 0, .int .u32 0], .int .u32 0, .int .u32 0], []⟩ 8 (by kernel_rfl) (by kernel_rfl) (by kernel_rfl) (by kernel_rfl)) ?_
  intro W base args ds gs before hval0 hW hcnd hsz0 _
  have hval : ∀ (j : Nat) t v, Try.f10.params[j]? = some t → args[j]? = some v → Value.okWide Try.prog W .any base t v := hval0
  have hW' := hW
  obtain ⟨p, q, hA0, hV, rfl, hfz, hnd⟩ := hW
  have hA : DataW.TrodAll enc Try.prog W 0 (fun _ => true) true Try.f10.params.toList args.toList ds p := hA0
  rw [Try.params10] at hA hval
  obtain ⟨v0, vs0, d0, ds0, p0, q0, hargs, rfl, rfl, h0, r0⟩ := trodAll_cons hA
  obtain ⟨v1, vs1, d1, ds1, p1, q1, rfl, rfl, rfl, h1, r1⟩ := trodAll_cons r0
  obtain ⟨v2, vs2, d2, ds2, p2, q2, rfl, rfl, rfl, h2, r2⟩ := trodAll_cons r1
  obtain ⟨v3, vs3, d3, ds3, p3, q3, rfl, rfl, rfl, h3, r3⟩ := trodAll_cons r2
  obtain ⟨rfl, rfl, rfl⟩ := trodAll_nil r3
  obtain rfl : args = #[v0, v1, v2, v3] := by cases args; simp_all
  obtain ⟨rfl, rfl⟩ := trodVars_none hV
  have k0 := h0
  have lt0 : ∀ x ∈ p0, x.block < W.heap.size := by obtain ⟨m, hm⟩ := k0; exact DataW.trod_lt m _ _ _ hm
  obtain ⟨a0_0, a0_1, a0_2, rfl, w0_0, w0_1, w0_2⟩ := openT24 (hval 0 24 v0 rfl rfl) h0
  have k1 := h1
  have lt1 : ∀ x ∈ p1, x.block < W.heap.size := by obtain ⟨m, hm⟩ := k1; exact DataW.trod_lt m _ _ _ hm
  obtain ⟨a1_0, a1_1, a1_2, a1_3, rfl, w1_0, w1_1, w1_2, w1_3⟩ := openT26 (hval 1 26 v1 rfl rfl) h1
  have k2 := h2
  have lt2 : ∀ x ∈ p2, x.block < W.heap.size := by obtain ⟨m, hm⟩ := k2; exact DataW.trod_lt m _ _ _ hm
  obtain ⟨a2, rfl, _, _, w2⟩ := open_int Try.underlying22 (hval 2 22 v2 rfl rfl) h2
  have k3 := h3
  have lt3 : ∀ x ∈ p3, x.block < W.heap.size := by obtain ⟨m, hm⟩ := k3; exact DataW.trod_lt m _ _ _ hm
  obtain ⟨a3, rfl, _, _, w3⟩ := open_int Try.underlying22 (hval 3 22 v3 rfl rfl) h3
  clear hA0 hval0 hsz0
  have hp := Go.Proofs.Ytnpnmbfbdnbeoaa.P.pure_CellBoxes a0_0 a0_1 a0_2 a1_0 a1_1 a1_2 a1_3 a2 a3 (bounds_u32 w0_0) (bounds_u32 w0_1) (bounds_i64 w0_2) (bounds_u32 w1_0) (bounds_u32 w1_1) (bounds_u32 w1_2) (bounds_u32 w1_3) (bounds_u32 w2) (bounds_u32 w3)
  refine (P.sphragislaw08_CellBoxes.calls 64 a0_0 a0_1 a0_2 a1_0 a1_1 a1_2 a1_3 a2 a3 true W hp).mono fun e W' ⟨he, bel0⟩ => ?_
  have bel : Below W.heap.size W W' := bel0
  subst he
  exact ⟨_, rfl, _, _, _, [], _, [], hW', trodAll_mk1 (shut_bool Try.underlying4 _), (trodAll_cons_mk (Below.trod laidOut (by kernel_rfl) (of_decide_eq_true (by kernel_rfl)) k0 bel lt0) (trodAll_cons_mk (Below.trod laidOut (by kernel_rfl) (of_decide_eq_true (by kernel_rfl)) k1 bel lt1) (trodAll_cons_mk (Below.trod laidOut (by kernel_rfl) (of_decide_eq_true (by kernel_rfl)) k2 bel lt2) (trodAll_cons_mk (Below.trod laidOut (by kernel_rfl) (of_decide_eq_true (by kernel_rfl)) k3 bel lt3) trodAll_mk0)))), rfl, bel.frame _, fun h => by cases h⟩
theorem over : Rows.cellBoxesRow.holds Try.pinned (OpenSpec.ofChange Rows.cellBoxesSpec) :=
  OpenClaim.holds_of_wide 10 Try.f10 rfl rfl rfl rfl rfl rfl rfl ⟨rfl, rfl, rfl, rfl, rfl⟩ rfl rfl rfl rfl rfl (by kernel_rfl) Try.func10 (by kernel_rfl)
    (of_decide_eq_true (by kernel_rfl)) (by unfold Func.isWrapper; first | (rw [if_pos (by decide +kernel)]; kernel_rfl) | (rw [if_neg (by decide +kernel)]; exact ⟨rfl, rfl⟩))
    (fun os started H enc _ => lifted os started H enc)
theorem proved : Rows.CellBoxesSaid := over
#print axioms proved
end Go.Proofs.Ytnpnmbfbdnbeoaa.cellBoxes
namespace Go.Proofs.Ytnpnmbfbdnbeoaa
/-- The row, under a short name, for the claim. -/
theorem cellBoxes_holds : Rows.CellBoxesSaid := cellBoxes.proved
end Go.Proofs.Ytnpnmbfbdnbeoaa

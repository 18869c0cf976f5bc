/- The law QuadParts returns true, whatever the input, and its arguments read behind the call as they read before. No condition. -/
import Derived.Test.YtojmfbdioaocpaaRows
import Derived.Test.YtojmfbdioaocpaaWalkQuadParts
import Derived.Test.YtojmfbdioaocpaaPureQuadParts
import Derived.Test.YtojmfbdioaocpaaOpen
import Derived.WalkKit
import Derived.ProofKit
import Derived.OpenShut
import Derived.ShutString
import Derived.ChangeOld
import Derived.Below
import Derived.SizedLaws
import Derived.Lib.SmallJoins
namespace Go.Proofs.Ytojmfbdioaocpaa.quadParts
open Go.ChangeShapes Go.WideShapes Go.ChangeAt Go.RowKit
set_option linter.unusedVariables false
theorem own : ownKnob Try.prog.godebug = none := by kernel_rfl
theorem laidOut : laidOutB Try.prog = true := by kernel_rfl
set_option maxRecDepth 100000 in
theorem openT53 {W : World} {H : Type} {enc : TypeId × Value → H} {b0 base : Nat} {sp : Nat → Bool} {hd : Bool} {v : Value} {d : DataW H} {p : List MemPlace}
    (hv : Value.okWide Try.prog W .any b0 53 v) (h : DataW.Trod enc Try.prog W base sp hd 53 v d p) :
    ∃ a0 a1 a2 a3 : Int, v = .agg #[.int .u32 a0, .int .u32 a1, .int .u32 a2, .int .u32 a3] ∧ (Lit.int .u32 a0).wf = true ∧ (Lit.int .u32 a1).wf = true ∧ (Lit.int .u32 a2).wf = true ∧ (Lit.int .u32 a3).wf = true := by
  obtain ⟨v0, v1, v2, v3, y0, y1, y2, y3, n, rfl, _, _, g0, g1, g2, g3⟩ := Go.Joins.open_agg4 Try.underlying53 (by kernel_rfl) (by kernel_rfl) hv h
  obtain ⟨a0, e0, _, w0⟩ := DataW.trod_int Try.underlying24 g0
  obtain ⟨a1, e1, _, w1⟩ := DataW.trod_int Try.underlying24 g1
  obtain ⟨a2, e2, _, w2⟩ := DataW.trod_int Try.underlying24 g2
  obtain ⟨a3, e3, _, w3⟩ := DataW.trod_int Try.underlying24 g3
  obtain rfl : v0 = .int .u32 a0 := by simpa using e0
  obtain rfl : v1 = .int .u32 a1 := by simpa using e1
  obtain rfl : v2 = .int .u32 a2 := by simpa using e2
  obtain rfl : v3 = .int .u32 a3 := by simpa using e3
  exact ⟨a0, a1, a2, a3, rfl, w0, w1, w2, w3⟩
set_option maxRecDepth 100000 in
theorem lifted (os : Os) (started : os.Started) (H : Type) (enc : TypeId × Value → H) :
    ReturnsInHanded {} Try.checked os 9 .any (Rows.quadPartsSpec.pre6 enc Try.prog Try.f9 Rows.quadPartsRow.domain false) (Rows.quadPartsSpec.post enc Try.prog Try.f9 false true false false) := by
  refine returnsInHanded_of_change_sized (C := Try.checked) own started (by kernel_rfl) Try.func9
    (ChangeSpec.witness6 (enc := enc) (C := Try.checked) false ⟨#[], #[.slice none 0 0, .agg #[.int .u32 0, .int .u32 0, .int .u32 0, .int .u32 0], .int .u32 0], []⟩ 8 (by kernel_rfl) (by kernel_rfl) (by kernel_rfl) (by kernel_rfl)) ?_
  intro W base args ds gs before hval0 hW hcnd hsz0 _
  have hval : ∀ (j : Nat) t v, Try.f9.params[j]? = some t → args[j]? = some v → Value.okWide Try.prog W .any base t v := hval0
  have hW' := hW
  obtain ⟨p, q, hA0, hV, rfl, hfz, hnd⟩ := hW
  have hA : DataW.TrodAll enc Try.prog W 0 (fun _ => true) true Try.f9.params.toList args.toList ds p := hA0
  rw [Try.params9] at hA hval
  obtain ⟨v0, vs0, d0, ds0, p0, q0, hargs, rfl, rfl, h0, r0⟩ := trodAll_cons hA
  obtain ⟨v1, vs1, d1, ds1, p1, q1, rfl, rfl, rfl, h1, r1⟩ := trodAll_cons r0
  obtain ⟨v2, vs2, d2, ds2, p2, q2, rfl, rfl, rfl, h2, r2⟩ := trodAll_cons r1
  obtain ⟨rfl, rfl, rfl⟩ := trodAll_nil r2
  obtain rfl : args = #[v0, v1, v2] := by cases args; simp_all
  obtain ⟨rfl, rfl⟩ := trodVars_none hV
  have k0 := h0
  have lt0 : ∀ x ∈ p0, x.block < W.heap.size := by obtain ⟨m, hm⟩ := k0; exact DataW.trod_lt m _ _ _ hm
  obtain ⟨A0, c0, l0, rfl, hc0, hC0, ok0, hd0⟩ := P.openRows (hval 0 22 v0 rfl rfl) h0
  have len0 := P.lenSlice hsz0 (j := 0) (t := 22) (by rw [Try.params9]; rfl) rfl Try.underlying22 (of_decide_eq_true (by kernel_rfl)) hd0
  have k1 := h1
  have lt1 : ∀ x ∈ p1, x.block < W.heap.size := by obtain ⟨m, hm⟩ := k1; exact DataW.trod_lt m _ _ _ hm
  obtain ⟨a1_0, a1_1, a1_2, a1_3, rfl, w1_0, w1_1, w1_2, w1_3⟩ := openT53 (hval 1 53 v1 rfl rfl) h1
  have k2 := h2
  have lt2 : ∀ x ∈ p2, x.block < W.heap.size := by obtain ⟨m, hm⟩ := k2; exact DataW.trod_lt m _ _ _ hm
  obtain ⟨a2, rfl, _, _, w2⟩ := open_int Try.underlying24 (hval 2 24 v2 rfl rfl) h2
  clear hA0 hval0 hsz0
  have hp := Go.Proofs.Ytojmfbdioaocpaa.P.pure_QuadParts l0 a1_0 a1_1 a1_2 a1_3 a2 ok0 len0 (bounds_u32 w1_0) (bounds_u32 w1_1) (bounds_u32 w1_2) (bounds_u32 w1_3) (bounds_u32 w2)
  refine (P.sphragislaw09_QuadParts.calls 512 A0 c0 l0 a1_0 a1_1 a1_2 a1_3 a2 true W hC0 hc0 hp).mono fun e W' ⟨he, bel0⟩ => ?_
  have bel : Below W.heap.size W W' := bel0
  subst he
  exact ⟨_, rfl, _, _, _, [], _, [], hW', trodAll_mk1 (shut_bool Try.underlying4 _), (trodAll_cons_mk (Below.trod laidOut (by kernel_rfl) (of_decide_eq_true (by kernel_rfl)) k0 bel lt0) (trodAll_cons_mk (Below.trod laidOut (by kernel_rfl) (of_decide_eq_true (by kernel_rfl)) k1 bel lt1) (trodAll_cons_mk (Below.trod laidOut (by kernel_rfl) (of_decide_eq_true (by kernel_rfl)) k2 bel lt2) trodAll_mk0))), rfl, bel.frame _, fun h => by cases h⟩
theorem over : Rows.quadPartsRow.holds Try.pinned (OpenSpec.ofChange Rows.quadPartsSpec) :=
  OpenClaim.holds_of_wide 9 Try.f9 rfl rfl rfl rfl rfl rfl rfl ⟨rfl, rfl, rfl, rfl, rfl⟩ rfl rfl rfl rfl rfl (by kernel_rfl) Try.func9 (by kernel_rfl)
    (of_decide_eq_true (by kernel_rfl)) (by unfold Func.isWrapper; first | (rw [if_pos (by decide +kernel)]; kernel_rfl) | (rw [if_neg (by decide +kernel)]; exact ⟨rfl, rfl⟩))
    (fun os started H enc _ => lifted os started H enc)
theorem proved : Rows.QuadPartsSaid := over
#print axioms proved
end Go.Proofs.Ytojmfbdioaocpaa.quadParts
namespace Go.Proofs.Ytojmfbdioaocpaa
/-- The row, under a short name, for the claim. -/
theorem quadParts_holds : Rows.QuadPartsSaid := quadParts.proved
end Go.Proofs.Ytojmfbdioaocpaa

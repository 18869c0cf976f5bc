/- Layer 9: what the laws' walks have in common: the first rows, the tree of them. -/
import Derived.Test.YtojmfbdioaocpaaPx601
import Derived.Test.YtojmfbdioaocpaaPx7
import Derived.Test.YtojmfbdioaocpaaPx8
namespace Go.Proofs.Ytojmfbdioaocpaa.P
open Go.RowKit Go.Proofs.YtojmfbdioaocpaaOwn Go.Proofs.YtojmfbdioaocpaaW.PrintWords Go.Proofs.YtojmfbdioaocpaaW.PrintLast Go.Proofs.YtojmfbdioaocpaaW.PrintMore
set_option linter.unusedVariables false
set_option linter.unusedSimpArgs false
theorem k26_heap9 : Kd.Heap k26 := Kd.heap_iso _ (Kd.heap_pair (Kd.heap_int .u64) (Kd.heap_pair (Kd.heap_int .u32) (Kd.heap_pair (Kd.heap_int .u32) Kd.heap_string)))
theorem few_calls9 (A0 : Option Addr) (c0 : Nat) (l0 r : List S26) (w : World) (hr0 : Kd.C k26 w A0 l0.length l0) (hc0 : l0.length ≤ c0) (h : sphragislaw09_few.f l0 = some r) :
    Calls Try.prog 12 #[.slice A0 l0.length c0] w fun e w' => ∃ A c, e = .returned (.slice A r.length c) ∧ r.length ≤ c ∧ Kd.C k26 w' A r.length r ∧ Below w.heap.size w w' := by
  refine (sphragislaw09_few.calls (fun k_ => k_ < w.heap.size) A0 c0 l0 r w (Kd.V_mk hc0 (Kd.C_F k26_heap9 hr0)) h).mono ?_
  rintro e w' ⟨v, rfl, hv, hb⟩
  obtain ⟨A, c, rfl⟩ := Kd.V_slice hv
  exact ⟨A, c, rfl, (Kd.V_reads' hv).2.1, (Kd.V_reads' hv).2.2, hb⟩
theorem build_calls9 (k : Nat) (A0 : Option Addr) (c0 : Nat) (l0 : List S26) (q : Int × Int × Int × List S26 × List S33 × Int) (w : World) (hr0 : Kd.C k26 w A0 l0.length l0) (hc0 : l0.length ≤ c0) (h : quad_Build.f k l0 = some q) :
    Calls Try.prog 13 #[.slice A0 l0.length c0] w fun e w' => ∃ A3 c3 A4 c4, e = .returned (.tuple #[.agg #[.int .u32 q.1, .int .u32 q.2.1, .int .i64 q.2.2.1, .slice A3 q.2.2.2.1.length c3, .slice A4 q.2.2.2.2.1.length c4], .int .i64 q.2.2.2.2.2]) ∧
      (q.2.2.2.1.length ≤ c3 ∧ Kd.C k26 w' A3 q.2.2.2.1.length q.2.2.2.1 ∧ q.2.2.2.2.1.length ≤ c4 ∧ Kd.C k33 w' A4 q.2.2.2.2.1.length q.2.2.2.2.1) ∧ Below w.heap.size w w' := by
  refine (quad_Build.calls k A0 c0 l0 q.1 q.2.1 q.2.2.1 q.2.2.2.1 q.2.2.2.2.1 q.2.2.2.2.2 w hr0 hc0 h).mono ?_
  rintro e w' ⟨v3, v4, rfl, h3, h4, hb⟩
  obtain ⟨A3, c3, rfl⟩ := Kd.R_slice h3
  obtain ⟨A4, c4, rfl⟩ := Kd.R_slice h4
  exact ⟨A3, c3, A4, c4, rfl, ⟨(Kd.R_reads' h3).2.1, (Kd.R_reads' h3).2.2, (Kd.R_reads' h4).2.1, (Kd.R_reads' h4).2.2⟩, hb⟩
end Go.Proofs.Ytojmfbdioaocpaa.P

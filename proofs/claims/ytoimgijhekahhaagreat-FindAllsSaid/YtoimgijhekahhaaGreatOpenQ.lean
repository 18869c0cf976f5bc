/- Queries that come in: from what the reader reads to the facts that the walks ask. -/
import Derived.Test.YtoimgijhekahhaaGreatOpen
import Derived.Test.YtoimgijhekahhaaGreatFindC
import Derived.OpenShut
namespace Go.Proofs.YtoimgijhekahhaaGreat.P
set_option linter.unusedSimpArgs false
open Go.RowKit Go.ChangeShapes Go.WideShapes Go.Proofs.YtoimgijhekahhaaGreatW.PrintWords Go.Proofs.YtoimgijhekahhaaGreatW.PrintLast Go.Proofs.YtoimgijhekahhaaGreatW.PrintMore
variable {W : World} {H : Type} {enc : TypeId × Value → H} {base b0 : Nat} {sp : Nat → Bool} {hd : Bool}
structure wfQ (q : Q11) : Prop where
 kind : -9223372036854775808 ≤ q.kind ∧ q.kind ≤ 9223372036854775807
 b0 : 0 ≤ q.b0 ∧ q.b0 ≤ 4294967295
 b1 : 0 ≤ q.b1 ∧ q.b1 ≤ 4294967295
 b2 : 0 ≤ q.b2 ∧ q.b2 ≤ 4294967295
 b3 : 0 ≤ q.b3 ∧ q.b3 ≤ 4294967295
 x : 0 ≤ q.x ∧ q.x ≤ 4294967295
 y : 0 ≤ q.y ∧ q.y ≤ 4294967295
 sq : 0 ≤ q.sq ∧ q.sq ≤ 18446744073709551615
 k : -9223372036854775808 ≤ q.k ∧ q.k ≤ 9223372036854775807
 after : 0 ≤ q.after ∧ q.after ≤ 18446744073709551615
set_option maxRecDepth 100000 in
theorem openBox {n : Nat} {cs : List Value} {x : DataW H × List MemPlace} (h : DataW.trod enc Tryz.prog W base sp hd n 25 cs = some x) :
  ∃ a0 a1 a2 a3 : Int, cs = [.int .u32 a0, .int .u32 a1, .int .u32 a2, .int .u32 a3] ∧ (Lit.int .u32 a0).wf = true ∧ (Lit.int .u32 a1).wf = true ∧ (Lit.int .u32 a2).wf = true ∧ (Lit.int .u32 a3).wf = true := by
 obtain ⟨xs, m, _, _, hl, hlen, hf⟩ := DataW.trod_struct Tryz.underlying25 h
 have hl4 : cs.length = 4 := hl.trans (by kernel_rfl)
 obtain ⟨c0, c1, c2, c3, rfl⟩ : ∃ c0 c1 c2 c3, cs = [c0, c1, c2, c3] := by match cs, hl4 with | [a, b, c, d], _ => exact ⟨a, b, c, d, rfl⟩
 obtain ⟨y0, y1, y2, y3, rfl⟩ : ∃ y0 y1 y2 y3, xs = [y0, y1, y2, y3] := by match xs, hlen with | [a, b, c, d], _ => exact ⟨a, b, c, d, rfl⟩
 have e32 : Tryz.prog.cellsOf 23 = 1 := by kernel_rfl
 have g0 : DataW.trod enc Tryz.prog W base sp hd m 23 (([c0, c1, c2, c3].drop 0).take (Tryz.prog.cellsOf 23)) = some y0 := hf 0 _ rfl
 have g1 : DataW.trod enc Tryz.prog W base sp hd m 23 (([c0, c1, c2, c3].drop 1).take (Tryz.prog.cellsOf 23)) = some y1 := hf 1 _ rfl
 have g2 : DataW.trod enc Tryz.prog W base sp hd m 23 (([c0, c1, c2, c3].drop 2).take (Tryz.prog.cellsOf 23)) = some y2 := hf 2 _ rfl
 have g3 : DataW.trod enc Tryz.prog W base sp hd m 23 (([c0, c1, c2, c3].drop 3).take (Tryz.prog.cellsOf 23)) = some y3 := hf 3 _ rfl
 simp only [e32, List.drop_zero, List.drop_succ_cons, List.take_succ_cons, List.take_zero] at g0 g1 g2 g3
 obtain ⟨a0, e0, _, w0⟩ := DataW.trod_int Tryz.underlying23 g0
 obtain ⟨a1, e1, _, w1⟩ := DataW.trod_int Tryz.underlying23 g1
 obtain ⟨a2, e2, _, w2⟩ := DataW.trod_int Tryz.underlying23 g2
 obtain ⟨a3, e3, _, w3⟩ := DataW.trod_int Tryz.underlying23 g3
 simp only [List.cons.injEq, and_true] at e0 e1 e2 e3
 exact ⟨a0, a1, a2, a3, by simp [e0, e1, e2, e3], w0, w1, w2, w3⟩
set_option maxRecDepth 100000 in
theorem openQc {n : Nat} {cs : List Value} {x : DataW H × List MemPlace} (h : DataW.trod enc Tryz.prog W base sp hd n 28 cs = some x) :
  ∃ q : Q11, cs = (encQ q).toList ∧ wfQ q := by
 obtain ⟨xs, m, _, _, hl, hlen, hf⟩ := DataW.trod_struct Tryz.underlying28 h
 have hl11 : cs.length = 11 := hl.trans (by kernel_rfl)
 obtain ⟨c0, c1, c2, c3, c4, c5, c6, c7, c8, c9, c10, rfl⟩ : ∃ c0 c1 c2 c3 c4 c5 c6 c7 c8 c9 c10, cs = [c0, c1, c2, c3, c4, c5, c6, c7, c8, c9, c10] := by match cs, hl11 with | [a, b, c, d, e, f, g, h, i, j, k], _ => exact ⟨a, b, c, d, e, f, g, h, i, j, k, rfl⟩
 obtain ⟨y0, y1, y2, y3, y4, y5, y6, y7, rfl⟩ : ∃ y0 y1 y2 y3 y4 y5 y6 y7, xs = [y0, y1, y2, y3, y4, y5, y6, y7] := by match xs, hlen with | [a, b, c, d, e, f, g, h], _ => exact ⟨a, b, c, d, e, f, g, h, rfl⟩
 have ei : Tryz.prog.cellsOf 3 = 1 := by kernel_rfl
 have eb : Tryz.prog.cellsOf 25 = 4 := by kernel_rfl
 have e32 : Tryz.prog.cellsOf 23 = 1 := by kernel_rfl
 have e64 : Tryz.prog.cellsOf 26 = 1 := by kernel_rfl
 have eo : Tryz.prog.cellsOf 4 = 1 := by kernel_rfl
 have g0 : DataW.trod enc Tryz.prog W base sp hd m 3 (([c0, c1, c2, c3, c4, c5, c6, c7, c8, c9, c10].drop 0).take (Tryz.prog.cellsOf 3)) = some y0 := hf 0 _ rfl
 have g1 : DataW.trod enc Tryz.prog W base sp hd m 25 (([c0, c1, c2, c3, c4, c5, c6, c7, c8, c9, c10].drop 1).take (Tryz.prog.cellsOf 25)) = some y1 := hf 1 _ rfl
 have g2 : DataW.trod enc Tryz.prog W base sp hd m 23 (([c0, c1, c2, c3, c4, c5, c6, c7, c8, c9, c10].drop 5).take (Tryz.prog.cellsOf 23)) = some y2 := hf 2 _ rfl
 have g3 : DataW.trod enc Tryz.prog W base sp hd m 23 (([c0, c1, c2, c3, c4, c5, c6, c7, c8, c9, c10].drop 6).take (Tryz.prog.cellsOf 23)) = some y3 := hf 3 _ rfl
 have g4 : DataW.trod enc Tryz.prog W base sp hd m 26 (([c0, c1, c2, c3, c4, c5, c6, c7, c8, c9, c10].drop 7).take (Tryz.prog.cellsOf 26)) = some y4 := hf 4 _ rfl
 have g5 : DataW.trod enc Tryz.prog W base sp hd m 3 (([c0, c1, c2, c3, c4, c5, c6, c7, c8, c9, c10].drop 8).take (Tryz.prog.cellsOf 3)) = some y5 := hf 5 _ rfl
 have g6 : DataW.trod enc Tryz.prog W base sp hd m 26 (([c0, c1, c2, c3, c4, c5, c6, c7, c8, c9, c10].drop 9).take (Tryz.prog.cellsOf 26)) = some y6 := hf 6 _ rfl
 have g7 : DataW.trod enc Tryz.prog W base sp hd m 4 (([c0, c1, c2, c3, c4, c5, c6, c7, c8, c9, c10].drop 10).take (Tryz.prog.cellsOf 4)) = some y7 := hf 7 _ rfl
 simp only [ei, eb, e32, e64, eo, List.drop_zero, List.drop_succ_cons, List.take_succ_cons, List.take_zero] at g0 g1 g2 g3 g4 g5 g6 g7
 obtain ⟨a0, e0, _, w0⟩ := DataW.trod_int Tryz.underlying3 g0
 obtain ⟨b0, b1, b2, b3, e1, v0, v1, v2, v3⟩ := openBox g1
 obtain ⟨a2, e2, _, w2⟩ := DataW.trod_int Tryz.underlying23 g2
 obtain ⟨a3, e3, _, w3⟩ := DataW.trod_int Tryz.underlying23 g3
 obtain ⟨a4, e4, _, w4⟩ := DataW.trod_int Tryz.underlying26 g4
 obtain ⟨a5, e5, _, w5⟩ := DataW.trod_int Tryz.underlying3 g5
 obtain ⟨a6, e6, _, w6⟩ := DataW.trod_int Tryz.underlying26 g6
 obtain ⟨a7, e7, _⟩ := DataW.trod_bool Tryz.underlying4 g7
 simp only [List.cons.injEq, and_true] at e0 e1 e2 e3 e4 e5 e6 e7
 exact ⟨⟨a0, b0, b1, b2, b3, a2, a3, a4, a5, a6, a7⟩, by simp [encQ, e0, e1, e2, e3, e4, e5, e6, e7], ⟨bounds_i64 w0, bounds_u32 v0, bounds_u32 v1, bounds_u32 v2, bounds_u32 v3, bounds_u32 w2, bounds_u32 w3, bounds_u64 w4, bounds_i64 w5, bounds_u64 w6⟩⟩
set_option maxRecDepth 100000 in
theorem openQ {v : Value} {dt : DataW H} {p : List MemPlace} (hv : Value.okWide Tryz.prog W .any b0 28 v) (h : DataW.Trod enc Tryz.prog W base sp hd 28 v dt p) :
  ∃ q : Q11, v = .agg (encQ q) ∧ wfQ q := by
 obtain ⟨cs, rfl, _⟩ := okWide_struct Tryz.underlying28 hv
 obtain ⟨fuel, hf⟩ := h
 obtain ⟨q, e, w⟩ := openQc hf
 refine ⟨q, ?_, w⟩
 have : cs = encQ q := Array.ext' (by simpa [Value.cells] using e)
 rw [this]
end Go.Proofs.YtoimgijhekahhaaGreat.P

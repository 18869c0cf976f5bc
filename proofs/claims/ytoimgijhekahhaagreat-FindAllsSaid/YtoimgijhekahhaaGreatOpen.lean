/- Rows and changes that come in: from what the reader reads to the facts that the walks ask. -/
import Derived.Test.YtoimgijhekahhaaGreatPx0
import Derived.Deep.Slices
import Derived.ChangeArms
import Derived.WideShapes
import Derived.DataReads
import Derived.SizedLaws
namespace Go.Proofs.YtoimgijhekahhaaGreat.P
set_option linter.unusedSimpArgs false
open Go.RowKit Go.ChangeShapes Go.WideShapes Go.Proofs.YtoimgijhekahhaaGreatW.PrintWords Go.Proofs.YtoimgijhekahhaaGreatW.PrintLast Go.Proofs.YtoimgijhekahhaaGreatW.PrintMore
variable {W : World} {H : Type} {enc : TypeId × Value → H} {base b0 : Nat} {sp : Nat → Bool} {hd : Bool}
instance inhRow9 : Inhabited S37 := ⟨z37⟩
structure wfRow (s : S37) : Prop where
 w0 : (Lit.int .u64 s.f0).wf = true
 w1 : (Lit.int .u32 s.f1).wf = true
 w2 : (Lit.int .u32 s.f2).wf = true
set_option maxRecDepth 100000 in
theorem openRow {n : Nat} {cs : List Value} {x : DataW H × List MemPlace} (h : DataW.trod enc Tryz.prog W base sp hd n 37 cs = some x) :
  ∃ s : S37, cs = [.int .u64 s.f0, .int .u32 s.f1, .int .u32 s.f2, .string s.f3] ∧ wfRow s := by
 obtain ⟨xs, m, _, _, hl, hlen, hf⟩ := DataW.trod_struct Tryz.underlying37 h
 have hl4 : cs.length = 4 := hl.trans (by kernel_rfl)
 obtain ⟨c0, c1, c2, c3, rfl⟩ : ∃ c0 c1 c2 c3, cs = [c0, c1, c2, c3] := by match cs, hl4 with | [a, b, c, d], _ => exact ⟨a, b, c, d, rfl⟩
 obtain ⟨y0, y1, y2, y3, rfl⟩ : ∃ y0 y1 y2 y3, xs = [y0, y1, y2, y3] := by match xs, hlen with | [a, b, c, d], _ => exact ⟨a, b, c, d, rfl⟩
 have e64 : Tryz.prog.cellsOf 26 = 1 := by kernel_rfl
 have e32 : Tryz.prog.cellsOf 23 = 1 := by kernel_rfl
 have es : Tryz.prog.cellsOf 9 = 1 := by kernel_rfl
 have g0 : DataW.trod enc Tryz.prog W base sp hd m 26 (([c0, c1, c2, c3].drop 0).take (Tryz.prog.cellsOf 26)) = some y0 := hf 0 _ rfl
 have g1 : DataW.trod enc Tryz.prog W base sp hd m 23 (([c0, c1, c2, c3].drop 1).take (Tryz.prog.cellsOf 23)) = some y1 := hf 1 _ rfl
 have g2 : DataW.trod enc Tryz.prog W base sp hd m 23 (([c0, c1, c2, c3].drop 2).take (Tryz.prog.cellsOf 23)) = some y2 := hf 2 _ rfl
 have g3 : DataW.trod enc Tryz.prog W base sp hd m 9 (([c0, c1, c2, c3].drop 3).take (Tryz.prog.cellsOf 9)) = some y3 := hf 3 _ rfl
 simp only [e64, e32, es, List.drop_zero, List.drop_succ_cons, List.take_succ_cons, List.take_zero, List.getElem?_cons_zero, List.getElem?_cons_succ] at g0 g1 g2 g3
 obtain ⟨a0, e0, _, w0⟩ := DataW.trod_int Tryz.underlying26 g0
 obtain ⟨a1, e1, _, w1⟩ := DataW.trod_int Tryz.underlying23 g1
 obtain ⟨a2, e2, _, w2⟩ := DataW.trod_int Tryz.underlying23 g2
 obtain ⟨a3, e3, _⟩ := DataW.trod_string Tryz.underlying9 g3
 simp only [List.cons.injEq, and_true] at e0 e1 e2 e3
 exact ⟨⟨a0, a1, a2, a3⟩, by simp [e0, e1, e2, e3], ⟨w0, w1, w2⟩⟩
set_option maxRecDepth 100000 in
theorem openSlice {α : Type} [Inhabited α] {d : Kd α} {t e : TypeId} {ok : α → Prop} {v : Value} {dt : DataW H} {p : List MemPlace} (ht : Tryz.prog.underlying t = some (.slice e)) (hc : Tryz.prog.cellsOf e = d.sz)
  (hel : ∀ {n : Nat} {cs : List Value} {x : DataW H × List MemPlace}, DataW.trod enc Tryz.prog W base sp hd n e cs = some x → ∃ s : α, cs.length = d.sz ∧ d.K W s cs ∧ ok s)
  (hv : Value.okWide Tryz.prog W .any b0 t v) (h : DataW.Trod enc Tryz.prog W base sp hd t v dt p) :
  ∃ (A : Option Addr) (c : Nat) (l : List α), v = .slice A l.length c ∧ l.length ≤ c ∧ d.C W A l.length l ∧ (∀ s ∈ l, ok s) ∧ ((l = [] ∧ dt = .nil) ∨ ∃ elems spare, dt = .slice elems spare ∧ elems.length = l.length) := by
 obtain ⟨a, len, cap, rfl⟩ := okWide_slice ht hv
 obtain ⟨fuel, hf⟩ := h
 rcases Go.Deep.open_slice ht hf with ⟨h0, hx⟩ | ⟨ad, len', cap', m, n, D, Pl, h0, hb, hl, hm, hmm, hx, hi⟩
 ·have h1 : (a, len, cap) = (none, 0, 0) := by simpa [Value.cells] using h0
  cases h1
  exact ⟨none, 0, [], rfl, Nat.le_refl _, Kd.C_nil d W, by simp, .inl ⟨rfl, by rw [Prod.mk.injEq] at hx; exact hx.1⟩⟩
 ·have h1 : (a, len, cap) = (some ad, len', cap') := by simpa [Value.cells] using h0
  cases h1
  have hlm : len ≤ m := by rw [hmm]; split <;> omega
  obtain ⟨f, hf2⟩ := Go.Deep.choose_lt (α := α) (n := len) (p := fun i s => ∃ c : List Value, c.length = d.sz ∧ d.K W s c ∧ ok s ∧ ∀ j u, c[j]? = some u → W.cell? (ad.add (i * d.sz + j)) = some u) (fun i hlt => by
   obtain ⟨cs', h2, h3⟩ := hi i (by omega)
   obtain ⟨s, e1, e2, e3⟩ := hel h3
   rw [hc] at h2
   obtain ⟨_, h4, h5⟩ := World.cells?_some h2
   refine ⟨s, cs', e1, e2, e3, fun j u hu => ?_⟩
   have hj : j < d.sz := by rw [← e1]; exact (List.getElem?_eq_some_iff.1 hu).1
   rw [← Addr.add_add, h5 j hj, hu])
  refine ⟨some ad, cap, (List.range len).map f, by simp, by simpa using hl, ⟨rfl, by simp; have : cap ≤ maxLen := hm; have : maxLen = 9223372036854775807 := rfl; omega, fun _ => ⟨ad, rfl, fun j p hj => ?_⟩⟩, ?_, .inr ⟨_, _, by rw [Prod.mk.injEq] at hx; exact hx.1, by simp⟩⟩
  ·rw [List.getElem?_map] at hj
   obtain ⟨j', hj', rfl⟩ := Option.map_eq_some_iff.1 hj
   obtain ⟨h6, h7⟩ := List.getElem?_eq_some_iff.1 hj'
   simp at h6 h7
   subst h7
   obtain ⟨c, h8, h9, _, h10⟩ := hf2 j h6
   exact ⟨c, h8, h9, h10⟩
  ·intro s hs
   obtain ⟨j, hj, rfl⟩ := List.mem_map.1 hs
   exact (hf2 j (List.mem_range.1 hj)).choose_spec.2.2.1
set_option maxRecDepth 100000 in
theorem openRows {v : Value} {dt : DataW H} {p : List MemPlace} (hv : Value.okWide Tryz.prog W .any b0 22 v) (h : DataW.Trod enc Tryz.prog W base sp hd 22 v dt p) :
  ∃ (A : Option Addr) (c : Nat) (l : List S37), v = .slice A l.length c ∧ l.length ≤ c ∧ Kd.C k37 W A l.length l ∧ (∀ s ∈ l, wfRow s) ∧ ((l = [] ∧ dt = .nil) ∨ ∃ elems spare, dt = .slice elems spare ∧ elems.length = l.length) :=
 openSlice Tryz.underlying22 (by kernel_rfl) (fun h => by obtain ⟨s, e, w⟩ := openRow h; subst e; exact ⟨s, rfl, k37_mk W s, w⟩) hv h
set_option maxRecDepth 100000 in
theorem lenSlice {α : Type} {ts : List TypeId} {ds : List (DataW H)} (hsz : (DataW.weightsEach Tryz.prog ts ds).all (· ≤ reachBytes) = true) {j : Nat} {t e : TypeId} {dt : DataW H} {l : List α} (ht : ts[j]? = some t) (hd : ds[j]? = some dt) (hu : Tryz.prog.underlying t = some (.slice e)) (hb : 1 ≤ Tryz.prog.bytesOf e)
  (h : (l = [] ∧ dt = .nil) ∨ ∃ elems spare, dt = .slice elems spare ∧ elems.length = l.length) : l.length < 140737488355328 := by
 rcases h with ⟨rfl, _⟩ | ⟨elems, spare, rfl, he⟩
 ·simp
 ·have h1 := sized_slice hsz ht hd hu
  have h2 := reachBytes_lt
  have h3 : elems.length + spare.length ≤ (elems.length + spare.length) * Tryz.prog.bytesOf e := Nat.le_mul_of_pos_right _ hb
  omega
end Go.Proofs.YtoimgijhekahhaaGreat.P

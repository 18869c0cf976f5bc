/- Layer 9, plain: Build in closed form. -/
import Derived.Test.YtoimgijhekahhaaTrC
import Derived.Test.YtoimgijhekahhaaOpen
import Derived.OpenShut
import Derived.Test.YtoimgijhekahhaaPx902
set_option linter.unusedVariables false
set_option linter.unusedSimpArgs false
namespace Go.Proofs.Ytoimgijhekahhaa.P
open Go.RowKit Go.Proofs.YtoimgijhekahhaaOwn Go.Proofs.YtoimgijhekahhaaW.PrintWords Go.Proofs.YtoimgijhekahhaaW.PrintLast Go.Proofs.YtoimgijhekahhaaW.PrintMore
theorem wf_u32 {x : Int} (h : (Lit.int .u32 x).wf = true) : 0 ≤ x ∧ x < 4294967296 := by
  have := bounds_u32 h; omega
theorem pt_of {s : Row} (h : wfRow s) (hk : okR s = true) : ptR s := by
  have h1 := wf_u32 h.w1
  have h2 := wf_u32 h.w2
  unfold okR at hk
  simp only [Bool.and_eq_true, decide_eq_true_eq] at hk
  exact ⟨h1.1, hk.1, h2.1, hk.2.1⟩
structure Good (l : List Row) : Prop where
  pt : ∀ r ∈ l, ptR r
  asc : ascS l
  len : l.length ≤ 60
  lev : levP l < 32
theorem good_of {l : List Row} (wf : ∀ s ∈ l, wfRow s) (hlen : l.length ≤ 60) (h : rightL l = true) : Good l := by
  obtain ⟨h1, h2, h3⟩ := rightL_iff.1 h
  have hp : ∀ r ∈ l, ptR r := fun r hr => pt_of (wf r hr) (h1 r hr)
  exact ⟨hp, h2, hlen, by have := levP_le hp; omega⟩
abbrev T9 (l : List Row) : Nod := treeP 32 l
theorem build_good {l : List Row} (g : Good l) (hr : rightL l = true) {k : Nat} (hk : 128 ≤ k) : quad_Build.f k l = some ((T9 l).1, (T9 l).2.1, (T9 l).2.2.1, (T9 l).2.2.2.1, (T9 l).2.2.2.2, 0) := by
  have := g.len
  unfold quad_Build.f
  rw [quad_right l k (by omega) (by omega), hr, Option.bind_some, if_pos rfl, tree_eq 32 l k g.pt g.lev (by omega) (by omega)]
  rfl
theorem build_bad {l : List Row} (hr : rightL l = false) (hlen : l.length ≤ 60) {k : Nat} (hk : 128 ≤ k) : quad_Build.f k l = some (0, 0, 0, [], [], 80) := by
  unfold quad_Build.f
  rw [quad_right l k (by omega) (by omega), hr, Option.bind_some, if_neg (by simp)]
theorem few_len (l : List Row) : (l.take 60).length ≤ 60 := by rw [List.length_take]; omega
theorem few_wf {l : List Row} (wf : ∀ s ∈ l, wfRow s) : ∀ s ∈ l.take 60, wfRow s := fun s h => wf s (List.mem_of_mem_take h)
end Go.Proofs.Ytoimgijhekahhaa.P

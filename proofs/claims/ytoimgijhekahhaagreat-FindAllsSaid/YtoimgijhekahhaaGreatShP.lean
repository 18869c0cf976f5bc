/- Layer 11: the first sixty rows lie where the rows lie. -/
import Derived.Test.YtoimgijhekahhaaGreatFuP
import Derived.Test.YtoimgijhekahhaaGreatFindS
namespace Go.Proofs.YtoimgijhekahhaaGreat.P
open Go.RowKit Go.Proofs.YtoimgijhekahhaaGreatOwn Go.Proofs.YtoimgijhekahhaaGreatW.PrintWords Go.Proofs.YtoimgijhekahhaaGreatW.PrintLast Go.Proofs.YtoimgijhekahhaaGreatW.PrintMore
set_option linter.unusedVariables false
set_option linter.unusedSimpArgs false
attribute [local go_sem] max2_int min2_int max_two min_two
theorem boxc_set {W : World} {B : Nat} {cs : Array Value} {t : TypeId} {fr : Nat × Nat} (h : W.heap[B]? = some (.cells cs t fr)) (i : Nat) (u : Value) : (W.setCell ⟨B, i, none⟩ u).heap[B]? = some (.cells (cs.setIfInBounds i u) t fr) := by
 unfold World.setCell
 simp [Array.getElem?_modify, h]
set_option maxRecDepth 100000 in
set_option maxHeartbeats 4000000 in
theorem few_A (A0 : Option Addr) (c0 : Nat) (l0 : List S37) (w : World) (hc0 : l0.length ≤ c0) :
  Calls Tryz.prog 6 #[.slice A0 l0.length c0] w fun e w' => e = .returned (.slice A0 (l0.take 60).length c0) ∧ Below w.heap.size w w' := by
 obtain ⟨n, hn⟩ : ∃ n, (l0.take 60).length = n := ⟨_, rfl⟩
 rw [hn]
 obtain ⟨j, hj⟩ : ∃ j : Int, (if 60 < (l0.length : Int) then 60 else (l0.length : Int)) = j := ⟨_, rfl⟩
 have hj2 : j = (n : Int) := by rw [← hn, ← hj, List.length_take]; split <;> omega
 have hj0 : 0 ≤ j := by omega
 have hjl : j ≤ (l0.length : Int) := by rw [← hj]; split <;> omega
 obtain ⟨i05, hi05, _, hsz5, _⟩ := info_parts info37
 have hcut5 := cut_to (P := Tryz.prog) 22 37 .i64 Tryz.underlying22 hi05 A0 l0.length c0 j hj0 hjl hc0
 rw [show j.toNat = n by omega] at hcut5
 clear hi05 hsz5 hj2 hj0 hjl hn
 go_enter Tryz.func6, Tryz.ntmps6
 go_wp2
 go_ret
 exact ⟨rfl, Below.refl _ _⟩
end Go.Proofs.YtoimgijhekahhaaGreat.P
namespace Go.Proofs.YtoimgijhekahhaaGreat.P
open Go.RowKit Go.Proofs.YtoimgijhekahhaaGreatOwn Go.Proofs.YtoimgijhekahhaaGreatW.PrintWords Go.Proofs.YtoimgijhekahhaaGreatW.PrintLast Go.Proofs.YtoimgijhekahhaaGreatW.PrintMore
set_option linter.unusedVariables false
set_option linter.unusedSimpArgs false
theorem l3_right : rightL l3 = true := by decide +kernel
theorem l3_wf' : ∀ s ∈ l3, wfRow s := l3_wf
theorem q1_wf : wfQ q1 := by constructor <;> decide
theorem q2_wf : wfQ q2 := by constructor <;> decide
theorem check_q1 : checkP q1 = 0 := by unfold checkP; simp [q1, mx]
theorem check_q2 : checkP q2 = 0 := by unfold checkP; simp [q2, mx]
theorem ask_q1 : askP l3 q1 = (l3.take 2, true, 0) := by
 unfold askP
 rw [if_pos l3_right, if_pos check_q1]
 rfl
theorem ask_q2 : askP l3 q2 = (l3.drop 2, false, 0) := by
 unfold askP
 rw [if_pos l3_right, if_pos check_q2]
 rfl
theorem shown_ok (w : World) : Calls Tryz.prog 4 #[] w fun e w' => e = .returned (.bool true) ∧ Below w.heap.size w w' :=
 shown_calls 512 ((AskF_eq l3_wf' (by decide) (by decide) q1_wf).trans (congrArg some ask_q1)) ((AskF_eq l3_wf' (by decide) (by decide) q2_wf).trans (congrArg some ask_q2)) (same_eq (by decide) (by decide)) (same_eq (by decide) (by decide)) w
end Go.Proofs.YtoimgijhekahhaaGreat.P

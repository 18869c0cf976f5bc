/- The pure statement of QuadParts. -/
import Derived.Test.YtojmfbdioaocpaaCtP
import Derived.Test.YtojmfbdioaocpaaWalkQuadParts
set_option linter.unusedVariables false
set_option linter.unusedSimpArgs false
namespace Go.Proofs.Ytojmfbdioaocpaa.P
open Go.RowKit Go.Proofs.YtojmfbdioaocpaaOwn Go.Proofs.YtojmfbdioaocpaaW.PrintWords Go.Proofs.YtojmfbdioaocpaaW.PrintLast Go.Proofs.YtojmfbdioaocpaaW.PrintMore
theorem cut_len {b0 b1 b2 b3 t : Int} (hb : boxB b0 b1 b2 b3 = true) (h0 : b0 ≤ t) (h1 : t < b2) : ∀ (l : List Row), (l.filter (inR b0 b1 b2 b3)).length = (l.filter (inR b0 b1 t b3)).length + (l.filter (inR (t + 1) b1 b2 b3)).length
  | [] => rfl
  | r :: l => by
    have ih := cut_len hb h0 h1 l
    obtain ⟨g1, g2, g3, g4⟩ := boxB_iff.1 hb
    have bl : boxB b0 b1 t b3 = true := boxB_iff.2 ⟨h0, g2, by omega, g4⟩
    have br : boxB (t + 1) b1 b2 b3 = true := boxB_iff.2 ⟨by omega, g2, g3, g4⟩
    have e : ∀ a c, boxB a b1 c b3 = true → (inR a b1 c b3 r = true ↔ a ≤ r.f1 ∧ r.f1 ≤ c ∧ b1 ≤ r.f2 ∧ r.f2 ≤ b3) := fun a c h => by unfold inR; rw [inB_iff]; simp [h]
    have e0 := e b0 b2 hb
    have e1 := e b0 t bl
    have e2 := e (t + 1) b2 br
    by_cases p0 : inR b0 b1 b2 b3 r = true
    · have q0 := e0.1 p0
      rw [List.filter_cons_of_pos p0]
      by_cases ht : r.f1 ≤ t
      · have p1 : inR b0 b1 t b3 r = true := e1.2 ⟨q0.1, ht, q0.2.2.1, q0.2.2.2⟩
        have p2 : ¬ inR (t + 1) b1 b2 b3 r = true := fun h => by have := e2.1 h; omega
        rw [List.filter_cons_of_pos p1, List.filter_cons_of_neg p2, List.length_cons, List.length_cons, ih]; omega
      · have p1 : ¬ inR b0 b1 t b3 r = true := fun h => by have := e1.1 h; omega
        have p2 : inR (t + 1) b1 b2 b3 r = true := e2.2 ⟨by omega, q0.2.1, q0.2.2.1, q0.2.2.2⟩
        rw [List.filter_cons_of_neg p1, List.filter_cons_of_pos p2, List.length_cons, List.length_cons, ih]; omega
    · have p1 : ¬ inR b0 b1 t b3 r = true := fun h => p0 (e0.2 (by have := e1.1 h; omega))
      have p2 : ¬ inR (t + 1) b1 b2 b3 r = true := fun h => p0 (e0.2 (by have := e2.1 h; omega))
      rw [List.filter_cons_of_neg p0, List.filter_cons_of_neg p1, List.filter_cons_of_neg p2]
      exact ih
theorem pure_QuadParts (l0 : List Row) (b0 b1 b2 b3 t : Int) (ok0 : ∀ s ∈ l0, wfRow s) (len0 : l0.length < 140737488355328) (c0 : 0 ≤ b0 ∧ b0 ≤ 4294967295) (c1 : 0 ≤ b1 ∧ b1 ≤ 4294967295) (c2 : 0 ≤ b2 ∧ b2 ≤ 4294967295) (c3 : 0 ≤ b3 ∧ b3 ≤ 4294967295) (c4 : 0 ≤ t ∧ t ≤ 4294967295) : sphragislaw09_QuadParts.f 512 l0 b0 b1 b2 b3 t = some true := by
  have hlen := few_len l0
  have hwf := few_wf ok0
  unfold sphragislaw09_QuadParts.f
  rw [shown_at (by omega), Option.bind_some, few9, Option.bind_some]
  cases hr : rightL (l0.take 60) with
  | false => rw [build_bad hr hlen (by omega), Option.bind_some, if_pos ⟨rfl, hlen⟩, if_neg (fun h => by have := h.1; simp at this)]
  | true =>
    have g := good_of hwf hlen hr
    rw [build_good g hr (by omega), Option.bind_some, if_pos ⟨rfl, hlen⟩]
    dsimp only
    by_cases hc : (0 : Int) = 0 ∧ cell_RightBox.f b0 b1 b2 b3 = some true ∧ b0 ≤ t ∧ t < b2
    case neg => rw [if_neg hc]
    rw [if_pos hc]
    obtain ⟨_, hb, h0, h1⟩ := hc
    rw [cell_RightBox.eq] at hb
    have hb := Option.some.inj hb
    obtain ⟨g1, g2, g3, g4⟩ := boxB_iff.1 hb
    have bl : boxB b0 b1 t b3 = true := boxB_iff.2 ⟨h0, g2, by omega, g4⟩
    have br : boxB (t + 1) b1 b2 b3 = true := boxB_iff.2 ⟨by omega, g2, g3, g4⟩
    have em : (t + 1) % 4294967296 = t + 1 := Int.emod_eq_of_lt (by omega) (by omega)
    rw [em, count_eq g (by omega), Option.bind_some, count_eq g (by omega), Option.bind_some, count_eq g (by omega), Option.bind_some, window_eq g, Option.bind_some]
    unfold windowP
    rw [if_pos hb, if_pos bl, if_pos br]
    have hcut := cut_len hb h0 h1 (l0.take 60)
    have hl1 := List.length_filter_le (inR b0 b1 t b3) (l0.take 60)
    have hl2 := List.length_filter_le (inR (t + 1) b1 b2 b3) (l0.take 60)
    dsimp only
    generalize ((l0.take 60).filter (inR b0 b1 b2 b3)).length = x1 at *
    generalize ((l0.take 60).filter (inR b0 b1 t b3)).length = x2 at *
    generalize ((l0.take 60).filter (inR (t + 1) b1 b2 b3)).length = x3 at *
    generalize (l0.take 60).length = x4 at *
    refine if_pos ⟨rfl, rfl, rfl, rfl, ?_, rfl⟩
    unfold wrap64
    omega
end Go.Proofs.Ytojmfbdioaocpaa.P

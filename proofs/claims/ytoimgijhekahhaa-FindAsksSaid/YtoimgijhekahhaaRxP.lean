/- Layer 9, plain: the reference's rows near enough. -/
import Derived.Test.YtoimgijhekahhaaJPlain
import Derived.Test.YtoimgijhekahhaaSqG
import Derived.Test.YtoimgijhekahhaaPx15
set_option linter.unusedVariables false
set_option linter.unusedSimpArgs false
namespace Go.Proofs.Ytoimgijhekahhaa.P
open Go.RowKit Go.Proofs.YtoimgijhekahhaaOwn Go.Proofs.YtoimgijhekahhaaW.PrintWords Go.Proofs.YtoimgijhekahhaaW.PrintLast Go.Proofs.YtoimgijhekahhaaW.PrintMore
theorem ref_round_l0 {l : List Row} (hp : ∀ r ∈ l, ptR r) (hl : l.length ≤ 1000) {a1 a2 a3 : Int} (h1 : 0 ≤ a1) (h2 : 0 ≤ a2) (g1 : a1 < 2147483648) (g2 : a2 < 2147483648) : ∀ (m j k : Nat) (acc : List Row), j + m = l.length → acc.length ≤ j → m < k →
  sphragisref09_Round.l0 k l a1 a2 a3 acc (j : Int) = some (acc ++ (l.drop j).filter (nearB a1 a2 a3), 0)
 | m, j, 0, _, _, _, h => by omega
 | 0, j, k + 1, acc, hj, _, _ => by
  rw [sphragisref09_Round.l0, if_neg (by omega), List.drop_eq_nil_of_le (by omega)]
  simp
 | m + 1, j, k + 1, acc, hj, hacc, hk => by
  have hjl : j < l.length := by omega
  obtain ⟨b1, b2, b3, b4⟩ := hp l[j] (List.getElem_mem hjl)
  have hw : wrap64 ((j : Int) + 1) = ((j + 1 : Nat) : Int) := by rw [wrap64_id (by omega) (by omega)]; omega
  rw [sphragisref09_Round.l0, if_pos (by omega), if_pos (by omega), rd_at l j hjl, ref_Square.eq h1 (by omega) h2 (by omega) b1 (by omega) b3 (by omega) (sqZ_lt' h1 h2 g1 g2 b1 b2 b3 b4), Option.bind_some, hw, List.drop_eq_getElem_cons hjl]
  by_cases hh : sqZ a1 a2 l[j].f1 l[j].f2 ≤ a3
  ·rw [if_pos hh, if_pos (by omega)]
   have := ref_round_l0 hp hl (a3 := a3) h1 h2 g1 g2 m (j + 1) k (acc ++ [l[j]]) (by omega) (by simp; omega) (by omega)
   show sphragisref09_Round.l0 k l a1 a2 a3 (acc ++ [l[j]]) ((j + 1 : Nat) : Int) = _
   rw [this]
   have hn : nearB a1 a2 a3 l[j] = true := decide_eq_true hh
   simp only [List.filter_cons, hn, if_true, List.append_assoc, List.singleton_append]
  ·rw [if_neg hh]
   have := ref_round_l0 hp hl (a3 := a3) h1 h2 g1 g2 m (j + 1) k acc (by omega) (by omega) (by omega)
   rw [this]
   have hn : nearB a1 a2 a3 l[j] = false := decide_eq_false hh
   simp only [List.filter_cons, hn, if_false, Bool.false_eq_true]
theorem ref_round_eq {l : List Row} (hp : ∀ r ∈ l, ptR r) (hl : l.length ≤ 1000) {a1 a2 a3 : Int} (h1 : 0 ≤ a1) (h2 : 0 ≤ a2) (g1 : a1 ≤ 4294967295) (g2 : a2 ≤ 4294967295) {k : Nat} (hk : l.length + 2 ≤ k) : sphragisref09_Round.f k l a1 a2 a3 = some (roundP l a1 a2 a3) := by
 obtain ⟨k, rfl⟩ : ∃ k', k = k' + 1 := ⟨k - 1, by omega⟩
 unfold sphragisref09_Round.f roundP
 by_cases c1 : a1 ≥ 2147483648
 ·rw [if_pos c1, if_pos (.inl c1), sphragisref09_Round.j0, if_pos rfl]
 ·rw [if_neg c1]
  by_cases c2 : a2 ≥ 2147483648
  ·rw [if_pos (.inr c2), decide_eq_true c2, sphragisref09_Round.j0, if_pos rfl]
  ·rw [if_neg (by omega), decide_eq_false c2, sphragisref09_Round.j0, if_neg (by simp)]
   have := ref_round_l0 hp hl (a3 := a3) h1 h2 (by omega) (by omega) l.length 0 k [] (by omega) (by simp) (by omega)
   simpa using this
end Go.Proofs.Ytoimgijhekahhaa.P

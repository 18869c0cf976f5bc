/- Layer 11, plain: what a query gives of the tree of good rows. -/
import Derived.Test.YtoimgijhekahhaaGreatFindS
import Derived.Test.YtoimgijhekahhaaGreatOpenQ
import Derived.Test.YtoimgijhekahhaaGreatJPlain
import Derived.Test.YtoimgijhekahhaaGreatPx801
namespace Go.Proofs.YtoimgijhekahhaaGreat.P
open Go.RowKit Go.Proofs.YtoimgijhekahhaaGreatOwn Go.Proofs.YtoimgijhekahhaaGreatW.PrintWords Go.Proofs.YtoimgijhekahhaaGreatW.PrintLast Go.Proofs.YtoimgijhekahhaaGreatW.PrintMore
set_option linter.unusedVariables false
set_option linter.unusedSimpArgs false
theorem rows_eq9 {l : List Row} (g : Good l) (k : Nat) : quad_Rows.f k (T9 l).1 (T9 l).2.1 (T9 l).2.2.1 (T9 l).2.2.2.1 (T9 l).2.2.2.2 = some l := by
 have hlen := g.len
 obtain ⟨h1, h2⟩ := sort_tree (ov := fun _ => false) (is := fun _ => true) (fun _ _ _ _ _ _ _ _ _ h => by simp at h) g.pt g.lev g.asc (by omega)
 unfold quad_Rows.f
 rw [show (⟨⟨(T9 l).1, (T9 l).2.1, (T9 l).2.2.1⟩, (T9 l).2.2.2.1, (T9 l).2.2.2.2⟩ : S44) = mkNode (treeP 32 l) from rfl, if_pos h1, h2]
 congr 1
 exact List.filter_eq_self.2 (fun _ _ => rfl)
def allP (l : List Row) (q : Q11) : List Row :=
 if q.kind = 1 then (windowP l q.b0 q.b1 q.b2 q.b3).1 else if q.kind = 2 then (roundP l q.x q.y q.sq).1 else if q.kind = 3 then (nearP l q.x q.y (wrap64 (q.k + 1))).1 else l
theorem kindR_eq {l : List Row} (g : Good l) (k : Nat) {q : Q11} (wq : wfQ q) : kindR k (T9 l) q = some (allP l q) := by
 unfold kindR allP
 by_cases h1 : q.kind = 1
 ·rw [if_pos h1, if_pos h1, window_eq g]; rfl
 ·rw [if_neg h1, if_neg h1]
  by_cases h2 : q.kind = 2
  ·rw [if_pos h2, if_pos h2, round_eq g k wq.x.1 wq.y.1]; rfl
  ·rw [if_neg h2, if_neg h2]
   by_cases h3 : q.kind = 3
   ·rw [if_pos h3, if_pos h3, near_eq g k wq.x.1 wq.y.1]; rfl
   ·rw [if_neg h3, if_neg h3, rows_eq9 g]
def askP (l : List Row) (q : Q11) : List Row × Bool × Int :=
 if rightL l = true then (if checkP q = 0 then ((cutQ q (allP l q)).1, (cutQ q (allP l q)).2, 0) else ([], false, checkP q)) else ([], false, 80)
theorem AskF_eq {l : List Row} (wf : ∀ s ∈ l, wfRow s) (hl : l.length ≤ 60) {k : Nat} (hk : 128 ≤ k) {q : Q11} (wq : wfQ q) : AskF k l q = some (askP l q) := by
 unfold AskF askP
 cases hr : rightL l with
 | false =>
  rw [build_bad hr hl hk, Option.bind_some]
  rfl
 | true =>
  have g := good_of wf hl hr
  rw [build_good g hr hk, Option.bind_some]
  by_cases hc : checkP q = 0
  ·rw [if_pos rfl, if_pos hc]
   show (if errQ q 0 = 0 then _ else _) = _
   rw [if_pos (by unfold errQ; rw [if_pos rfl]; exact hc)]
   show Option.map _ (kindR k (T9 l) q) = _
   rw [kindR_eq g k wq]
   rfl
  ·rw [if_pos rfl, if_neg hc]
   show (if errQ q 0 = 0 then _ else _) = _
   have : errQ q 0 = checkP q := by unfold errQ; rw [if_pos rfl]
   rw [this, if_neg hc]
theorem l3_wf : ∀ s ∈ [(⟨1, 0, 0, ⟨#[]⟩⟩ : Row), ⟨2, 0, 0, ⟨#[]⟩⟩, ⟨3, 0, 0, ⟨#[]⟩⟩], wfRow s := by
 intro s hs
 simp only [List.mem_cons, List.not_mem_nil, or_false] at hs
 rcases hs with rfl | rfl | rfl <;> exact ⟨by decide, by decide, by decide⟩
end Go.Proofs.YtoimgijhekahhaaGreat.P
namespace Go.Proofs.YtoimgijhekahhaaGreat.P
open Go.RowKit Go.Proofs.YtoimgijhekahhaaGreatOwn Go.Proofs.YtoimgijhekahhaaGreatW.PrintWords Go.Proofs.YtoimgijhekahhaaGreatW.PrintLast Go.Proofs.YtoimgijhekahhaaGreatW.PrintMore
set_option linter.unusedVariables false
set_option linter.unusedSimpArgs false
def wholeP (l : List Row) (q : Q11) : List Row :=
 if q.kind = 1 then l.filter (inR q.b0 q.b1 q.b2 q.b3) else if q.kind = 2 then l.filter (nearB q.x q.y q.sq) else if q.kind = 3 then sortD q.x q.y l else l
def fullP (l : List Row) (q : Q11) : List Row := leftQ q (wholeP l q)
theorem check_iff {q : Q11} : checkP q = 0 ↔ (1 ≤ q.kind ∧ q.kind ≤ 4) ∧ (if q.kind = 3 then 0 ≤ q.k else 1 ≤ q.k) ∧ q.k ≤ 64 ∧ (q.kind = 1 → boxB q.b0 q.b1 q.b2 q.b3 = true) ∧ (q.kind = 2 ∨ q.kind = 3 → q.x < 2147483648 ∧ q.y < 2147483648) := by
 unfold checkP
 rw [cell_RightBox.eq]
 have hm : 2147483648 ≤ mx q.x q.y ↔ ¬ (q.x < 2147483648 ∧ q.y < 2147483648) := by unfold mx; split <;> omega
 have hk : (if q.kind = 3 then q.k < 0 else q.k < 1) ↔ ¬ (if q.kind = 3 then 0 ≤ q.k else 1 ≤ q.k) := by split <;> omega
 have hb : (some (boxB q.b0 q.b1 q.b2 q.b3) = some false) ↔ ¬ boxB q.b0 q.b1 q.b2 q.b3 = true := by cases boxB q.b0 q.b1 q.b2 q.b3 <;> simp
 simp only [hm, hk, hb]
 by_cases c1 : q.kind < 1 ∨ 4 < q.kind
 ·rw [if_pos c1]; constructor
  ·intro h; omega
  ·rintro ⟨h, _⟩; omega
 rw [if_neg c1]
 by_cases c2 : (¬ (if q.kind = 3 then 0 ≤ q.k else 1 ≤ q.k)) ∨ 64 < q.k
 ·rw [if_pos c2]; constructor
  ·intro h; omega
  ·rintro ⟨_, h1, h2, _⟩; rcases c2 with c | c
   ·exact absurd h1 c
   ·omega
 rw [if_neg c2]
 have c2' := not_or.1 c2
 by_cases c3 : q.kind = 1 ∧ ¬ boxB q.b0 q.b1 q.b2 q.b3 = true
 ·rw [if_pos c3]; constructor
  ·intro h; omega
  ·rintro ⟨_, _, _, h, _⟩; exact absurd (h c3.1) c3.2
 rw [if_neg c3]
 by_cases c4 : (q.kind = 2 ∨ q.kind = 3) ∧ ¬ (q.x < 2147483648 ∧ q.y < 2147483648)
 ·rw [if_pos c4]; constructor
  ·intro h; omega
  ·rintro ⟨_, _, _, _, h⟩; exact absurd (h c4.1) c4.2
 rw [if_neg c4]
 refine ⟨fun _ => ⟨by omega, Decidable.not_not.1 c2'.1, by omega, fun h => ?_, fun h => ?_⟩, fun _ => rfl⟩
 ·exact Decidable.byContradiction fun hb' => c3 ⟨h, hb'⟩
 ·exact Decidable.byContradiction fun hb' => c4 ⟨h, hb'⟩
theorem check_k0 {q : Q11} (h : checkP q = 0) : 0 ≤ q.k := by
 have h1 := (check_iff.1 h).2.1
 by_cases h3 : q.kind = 3
 ·rw [if_pos h3] at h1; exact h1
 ·rw [if_neg h3] at h1; omega
theorem cut_full {l : List Row} {q : Q11} (wq : wfQ q) (h : checkP q = 0) : cutQ q (allP l q) = ((fullP l q).take q.k.toNat, decide (q.k < ((fullP l q).length : Int))) := by
 obtain ⟨a, b, c, d, e⟩ := check_iff.1 h
 have h0 := check_k0 h
 by_cases h3 : q.kind = 3
 ·obtain ⟨gx, gy⟩ := e (.inr h3)
  have hl : ∀ L, leftQ q L = L := fun L => by unfold leftQ; rw [if_neg (fun hh => hh.2 h3)]
  have hw : wrap64 (q.k + 1) = q.k + 1 := wrap64_id (by omega) (by omega)
  have ha : allP l q = (sortD q.x q.y l).take (q.k + 1).toNat := by
   unfold allP nearP
   rw [if_neg (by omega), if_neg (by omega), if_pos h3, hw, if_neg (by omega)]
  have hf : fullP l q = sortD q.x q.y l := by unfold fullP wholeP; rw [hl, if_neg (by omega), if_neg (by omega), if_pos h3]
  unfold cutQ
  rw [hl, ha, hf, List.take_take, List.length_take, show min q.k.toNat (q.k + 1).toNat = q.k.toNat by omega]
  congr 1
  rw [decide_eq_decide]
  omega
 ·have ha : allP l q = wholeP l q := by
   unfold allP wholeP windowP roundP
   by_cases h1 : q.kind = 1
   ·rw [if_pos h1, if_pos h1, if_pos (d h1)]
   ·rw [if_neg h1, if_neg h1]
    by_cases h2 : q.kind = 2
    ·obtain ⟨gx, gy⟩ := e (.inl h2)
     rw [if_pos h2, if_pos h2, if_neg (by omega)]
    ·rw [if_neg h2, if_neg h2, if_neg h3, if_neg h3]
  rw [ha]
  rfl
theorem ask_good {l : List Row} (hr : rightL l = true) {q : Q11} (wq : wfQ q) (h : checkP q = 0) : askP l q = ((fullP l q).take q.k.toNat, decide (q.k < ((fullP l q).length : Int)), 0) := by
 unfold askP
 rw [if_pos hr, if_pos h, cut_full wq h]
theorem ask_err {l : List Row} {q : Q11} : (askP l q).2.2 = if rightL l = true then checkP q else 80 := by
 unfold askP
 cases hr : rightL l with
 | false => rfl
 | true =>
  rw [if_pos rfl, if_pos rfl]
  by_cases hc : checkP q = 0
  ·rw [if_pos hc, hc]
  ·rw [if_neg hc]
theorem ask_ok {l : List Row} {q : Q11} (h : (askP l q).2.2 = 0) : rightL l = true ∧ checkP q = 0 := by
 rw [ask_err] at h
 cases hr : rightL l with
 | false => rw [hr, if_neg (by simp)] at h; omega
 | true => rw [hr, if_pos rfl] at h; exact ⟨rfl, h⟩
theorem full_len {l : List Row} {q : Q11} : (fullP l q).length ≤ l.length := by
 have h1 : (wholeP l q).length ≤ l.length := by
  unfold wholeP
  split
  ·exact List.length_filter_le _ _
  ·split
   ·exact List.length_filter_le _ _
   ·split
    ·exact Nat.le_of_eq (sortD_perm _ _ _).length_eq
    ·exact Nat.le_refl _
 unfold fullP leftQ
 split
 ·exact Nat.le_trans (List.length_filter_le _ _) h1
 ·exact h1
end Go.Proofs.YtoimgijhekahhaaGreat.P

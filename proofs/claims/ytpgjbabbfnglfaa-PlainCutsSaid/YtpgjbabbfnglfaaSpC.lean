/- Layer 12, plain: getting, rows with another one in a place, in closed form. -/
import Derived.Test.YtpgjbabbfnglfaaSpB
set_option linter.unusedVariables false
set_option linter.unusedSimpArgs false
namespace Go.Proofs.Ytpgjbabbfnglfaa.P
open Go.RowKit Go.Proofs.YtpgjbabbfnglfaaW.PrintWords Go.Proofs.YtpgjbabbfnglfaaW.PrintLast Go.Proofs.YtpgjbabbfnglfaaW.PrintMore
abbrev GetR := Int × Int × Int × ByteArray × Int
def got : Option Row → GetR
  | some x => (x.f0, x.f1, x.f2, x.f3, 0)
  | none => (0, 0, 0, ⟨#[]⟩, 100)
def getP (l : List Row) (id : Int) : GetR := if rightB l = true then got (atId l id) else (0, 0, 0, ⟨#[]⟩, 80)
theorem atId_mem {l : List Row} {id : Int} {x : Row} (h : atId l id = some x) : x ∈ l ∧ x.f0 = id := ⟨List.mem_of_find?_eq_some h, by simpa using List.find?_some h⟩
theorem drop_rd {l : List Row} {i : Nat} (h : i < l.length) : l.drop i = rd_T26 l (i : Int) :: l.drop (i + 1) := by rw [rd_at l i h]; exact List.drop_eq_getElem_cons h
theorem rget_l0 (l : List Row) (id : Int) (hl : l.length < 4611686018427387904) : ∀ (n i k : Nat), i + n = l.length → n < k → sphragisref12_Get.l0 k l id (i : Int) = some (got (atId (l.drop i) id))
  | n, i, 0, _, h => by omega
  | 0, i, k + 1, hi, _ => by
    rw [sphragisref12_Get.l0, if_neg (by omega), List.drop_eq_nil_of_le (by omega)]
    rfl
  | n + 1, i, k + 1, hi, hk => by
    have ih := rget_l0 l id hl n (i + 1) k (by omega) (by omega)
    have hw : wrap64 ((i : Int) + 1) = ((i + 1 : Nat) : Int) := by rw [wrap64_id (by omega) (by omega)]; omega
    rw [sphragisref12_Get.l0, if_pos (by omega), if_pos (by omega), hw, ih, drop_rd (l := l) (i := i) (by omega)]
    by_cases h : (rd_T26 l (i : Int)).f0 = id
    · rw [if_pos h]
      simp [atId, List.find?_cons, h, got]
    · rw [if_neg h]
      simp [atId, List.find?_cons, beq_eq_false_iff_ne.2 h]
theorem ref_get (l : List Row) (id : Int) (k : Nat) (hl : l.length < 4611686018427387904) (hk : l.length < k) : sphragisref12_Get.f k l id = some (getP l id) := by
  unfold sphragisref12_Get.f getP
  rw [ref_right l k hl hk]
  simp only [Option.bind_some]
  cases rightB l with
  | false => rfl
  | true =>
    rw [if_pos rfl, if_pos rfl, show (0 : Int) = ((0 : Nat) : Int) from rfl, rget_l0 l id hl l.length 0 k (by omega) hk]
    rfl
theorem plain_get (l : List Row) (id : Int) (k : Nat) (hl : l.length < 4611686018427387904) (hk : l.length < k) : plain_Get.f k l id = some (getP l id) := by
  unfold plain_Get.f getP
  rw [quad_right l k hl hk]
  simp only [Option.bind_some]
  cases hr : rightB l with
  | false => rfl
  | true =>
    have ha := (rightB_iff.1 hr).2.1
    rw [if_pos rfl, if_pos rfl, place_f id ha hl]
    simp only [Option.bind_some]
    cases hx : atId l id with
    | none => simp [got]
    | some x =>
      have hd := asc_drop id ha
      rw [hx] at hd
      have hlt : pl l id < l.length := by
        have := congrArg List.length hd
        simp at this; omega
      have hg : l[pl l id] = x := by
        have := congrArg (fun t => t[0]?) hd
        simp [List.getElem?_drop, hlt] at this
        exact this
      simp only [Option.isSome_some, if_true]
      rw [if_pos (by omega), if_pos (by omega), rd_at l _ hlt, hg]
      rfl

/-- Rows with another one in a place, step by step. -/
def withL (id : Int) (r : Row) : List Row → Bool → List Row
  | [], done => if done then [] else [r]
  | a :: t, done => (if !done && decide (a.f0 ≥ id) then [r] else []) ++ ((if a.f0 = id then [] else [a]) ++ withL id r t (done || decide (a.f0 ≥ id)))
theorem with_l0 (l : List Row) (id : Int) (r : Row) (hl : l.length < 4611686018427387904) : ∀ (n i k : Nat) (out : List Row) (done : Bool), i + n = l.length → 2 * n < k → out.length + 2 * n + 2 < 4398046511104 →
    sphragisref12_with.l0 k l id out done (i : Int) r.f0 r.f1 r.f2 r.f3 = some (out ++ withL id r (l.drop i) done)
  | n, i, 0, out, done, _, h, _ => by omega
  | 0, i, k + 1, out, done, hi, _, ho => by
    rw [sphragisref12_with.l0, if_neg (by omega), List.drop_eq_nil_of_le (by omega)]
    cases done with
    | true => simp [withL]
    | false => rw [if_neg Bool.false_ne_true, if_pos (by omega)]; rfl
  | n + 1, i, 1, out, done, hi, hk, ho => by omega
  | n + 1, i, k + 2, out, done, hi, hk, ho => by
    have hw : wrap64 ((i : Int) + 1) = ((i + 1 : Nat) : Int) := by rw [wrap64_id (by omega) (by omega)]; omega
    have ih := fun out done h => with_l0 l id r hl n (i + 1) k out done (by omega) (by omega) h
    generalize ha : rd_T26 l (i : Int) = a at *
    have hj : ∀ b : Bool, sphragisref12_with.j1 (k + 1) l id out done (i : Int) b r.f0 r.f1 r.f2 r.f3 = some (out ++ ((if b then [r] else []) ++ ((if a.f0 = id then [] else [a]) ++ withL id r (l.drop (i + 1)) (done || b)))) := by
      intro b
      rw [sphragisref12_with.j1]
      cases b with
      | true =>
        rw [if_pos rfl, if_pos (by omega)]
        simp only [Option.bind_some]
        rw [if_pos (by omega), if_pos (by omega), ha, hw]
        by_cases h : a.f0 = id
        · rw [if_pos h, ih _ _ (by simp; omega)]
          simp [h]
        · rw [if_neg h, if_pos (by simp; omega), ih _ _ (by simp; omega)]
          simp [h]
      | false =>
        rw [if_neg Bool.false_ne_true, if_pos (by omega), if_pos (by omega), ha, hw]
        by_cases h : a.f0 = id
        · rw [if_pos h, ih _ _ (by omega)]
          simp [h]
        · rw [if_neg h, if_pos (by omega), ih _ _ (by simp; omega)]
          simp [h]
    rw [sphragisref12_with.l0, if_pos (by omega), drop_rd (l := l) (i := i) (by omega), ha]
    cases done with
    | true => rw [if_pos rfl, hj]; simp [withL]
    | false =>
      rw [if_neg Bool.false_ne_true, if_pos (by omega), hj]
      simp [withL]
theorem withL_true (id : Int) (r : Row) : ∀ (l : List Row), withL id r l true = l.filter fun x => !decide (x.f0 = id)
  | [] => rfl
  | a :: t => by
    rw [withL, Bool.true_or, withL_true id r t]
    by_cases h : a.f0 = id <;> simp [h]
theorem asc_ne {l : List Row} (id : Int) (h : ascS l) : (l.filter fun x => !decide (x.f0 = id)) = under l id ++ above l id := by
  induction l with
  | nil => rfl
  | cons a t ih =>
    obtain ⟨h1, h2⟩ := ascS_cons.1 h
    have ih := ih h2
    by_cases h3 : a.f0 < id
    · have h4 : a.f0 ≠ id := by omega
      have h5 : ¬ id < a.f0 := by omega
      unfold under above at *
      simp [h3, h4, h5, ih]
    · have hu : under t id = [] := List.filter_eq_nil_iff.2 fun x hx => by have := h1 x hx; simp; omega
      rw [hu, List.nil_append] at ih
      unfold under above at *
      by_cases h4 : a.f0 = id
      · have h5 : ¬ id < a.f0 := by omega
        simp [h4, ih, hu]
      · have h5 : id < a.f0 := by omega
        simp [h3, h4, h5, ih, hu]
theorem withL_false {l : List Row} (id : Int) (r : Row) (h : ascS l) : withL id r l false = under l id ++ (r :: above l id) := by
  induction l with
  | nil => rfl
  | cons a t ih =>
    obtain ⟨h1, h2⟩ := ascS_cons.1 h
    have ih := ih h2
    rw [withL]
    by_cases h3 : a.f0 < id
    · have h4 : ¬ a.f0 ≥ id := by omega
      have h5 : a.f0 ≠ id := by omega
      have h6 : ¬ id < a.f0 := by omega
      unfold under above at *
      simp [h3, h4, h5, h6, ih]
    · have h4 : a.f0 ≥ id := by omega
      have hu : under t id = [] := List.filter_eq_nil_iff.2 fun x hx => by have := h1 x hx; simp; omega
      have hn := asc_ne id h2
      rw [hu, List.nil_append] at hn
      have hw := withL_true id r t
      rw [hn] at hw
      unfold under above at *
      by_cases h5 : a.f0 = id
      · have h6 : ¬ id < a.f0 := by omega
        simp [h4, h5, hw, hu]
      · have h6 : id < a.f0 := by omega
        simp [h3, h4, h5, h6, hw, hu]
theorem ref_with (l : List Row) (id : Int) (r : Row) (put : Bool) (k : Nat) (h : ascS l) (hl : l.length ≤ 1000) (hk : 2 * l.length < k) :
    sphragisref12_with.f k l id r.f0 r.f1 r.f2 r.f3 put = some (under l id ++ ((if put then [r] else []) ++ above l id)) := by
  unfold sphragisref12_with.f
  rw [show (0 : Int) = ((0 : Nat) : Int) from rfl, with_l0 l id r (by omega) l.length 0 k [] (!put) (by omega) hk (by simp; omega)]
  rw [List.drop_zero, List.nil_append]
  cases put with
  | true => rw [Bool.not_true, withL_false id r h]; rfl
  | false => rw [Bool.not_false, withL_true, asc_ne id h]; rfl
end Go.Proofs.Ytpgjbabbfnglfaa.P

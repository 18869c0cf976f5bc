-- Laid by a program of this session: the walk of functions of the translation, for this claim.
import Derived.Test.YtoimgijhekahhaaGreatPx0
import Derived.Test.YtoimgijhekahhaaGreatPx7
import Derived.Test.YtoimgijhekahhaaGreatPx904
namespace Go.Proofs.YtoimgijhekahhaaGreat.P
open Go.RowKit Go.Proofs.YtoimgijhekahhaaGreatOwn Go.Proofs.YtoimgijhekahhaaGreatW.PrintWords Go.Proofs.YtoimgijhekahhaaGreatW.PrintLast Go.Proofs.YtoimgijhekahhaaGreatW.PrintMore
attribute [local go_sem] max2_int min2_int max_two min_two max_three min_three max_four min_four
set_option linter.unusedVariables false
set_option linter.unusedSimpArgs false
section
attribute [local go_sem] Oper.semAt_some
mutual
def rowsN (ov : S41 → Bool) : S44 → List S37
 | ⟨c, rs, ks⟩ => if ov c then [] else rs ++ rowsL ov ks
def rowsL (ov : S41 → Bool) : List S44 → List S37
 | [] => []
 | n :: ns => rowsN ov n ++ rowsL ov ns
end
mutual
def depN : S44 → Nat
 | ⟨_, _, ks⟩ => depL ks + 1
def depL : List S44 → Nat
 | [] => 0
 | n :: ns => Nat.max (depN n) (depL ns)
end
mutual
def allN (p : S41 → Prop) : S44 → Prop
 | ⟨c, _, ks⟩ => p c ∧ allL p ks
def allL (p : S41 → Prop) : List S44 → Prop
 | [] => True
 | n :: ns => allN p n ∧ allL p ns
end
theorem rowsL_append (ov : S41 → Bool) : ∀ (a b : List S44), rowsL ov (a ++ b) = rowsL ov a ++ rowsL ov b
 | [], b => by simp [rowsL]
 | n :: a, b => by simp [rowsL, rowsL_append ov a b]
theorem depL_mem : ∀ {l : List S44} {n : S44}, n ∈ l → depN n ≤ depL l
 | a :: l, n, h => by
  rcases List.mem_cons.1 h with rfl | h
  ·rw [depL]; exact Nat.le_max_left _ _
  ·rw [depL]; exact Nat.le_trans (depL_mem h) (Nat.le_max_right _ _)
theorem allL_mem {p : S41 → Prop} : ∀ {l : List S44} {n : S44}, n ∈ l → allL p l → allN p n
 | a :: l, n, h, ha => by
  rw [allL] at ha
  rcases List.mem_cons.1 h with rfl | h
  ·exact ha.1
  ·exact allL_mem h ha.2
theorem rowsN_eq (ov : S41 → Bool) (n : S44) : rowsN ov n = if ov n.f0 then [] else n.f1 ++ rowsL ov n.f2 := by cases n; rfl
theorem depN_eq (n : S44) : depN n = depL n.f2 + 1 := by cases n; rfl
theorem allN_eq (p : S41 → Prop) (n : S44) : allN p n = (p n.f0 ∧ allL p n.f2) := by cases n; rfl
theorem rowsL_take (ov : S41 → Bool) {l : List S44} {j : Nat} (h : j < l.length) : rowsL ov (l.take (j + 1)) = rowsL ov (l.take j) ++ rowsN ov l[j] := by
 rw [List.take_succ_eq_append_getElem h, rowsL_append]
 simp [rowsL]
theorem rowsL_split (ov : S41 → Bool) {l : List S44} {j : Nat} (h : j < l.length) : rowsL ov l = rowsL ov (l.take j) ++ (rowsN ov l[j] ++ rowsL ov (l.drop (j + 1))) := by
 conv => lhs; rw [← List.take_append_drop j l, rowsL_append, List.drop_eq_getElem_cons h]
 rw [rowsL]
theorem rd_node (l : List S44) (j : Nat) (h : j < l.length) : rd_T44 l (j : Int) = l[j] := by unfold rd_T44; simp [List.getD, h]
structure KeepT (n₀ : Nat) (A B : World) : Prop where
 below : Below n₀ A B
 same : ∀ (q : Nat) (cs : Array Value) (t : TypeId) (fr : Nat × Nat), A.heap[q]? = some (.cells cs t fr) → t ≠ 37 → t ≠ 22 → B.heap[q]? = some (.cells cs t fr)
theorem KeepT.refl (n₀ : Nat) (A : World) : KeepT n₀ A A := ⟨Below.refl _ _, fun _ _ _ _ h _ _ => h⟩
theorem KeepT.trans {n₀ : Nat} {A B C : World} (h : KeepT n₀ A B) (k : KeepT n₀ B C) : KeepT n₀ A C := ⟨h.below.trans k.below, fun q cs t fr h1 h2 h3 => k.same q cs t fr (h.same q cs t fr h1 h2 h3) h2 h3⟩
theorem KeepT.put {n₀ : Nat} (W : World) (l : Nat) (o o' : Obj) (hl : n₀ ≤ l) (h : W.heap[l]? = some o) (ho : o.isCells = false) : KeepT n₀ W (W.putObj l o') :=
 ⟨(Below.refl n₀ W).grown (grownBy_putObj' W l o') (Nat.le_trans hl (Nat.le_of_lt (Array.getElem?_eq_some_iff.1 h).1)) (fun k e => by cases e; exact hl), fun q cs t fr h1 _ _ => (World.putObj_heap_other (fun e => by subst e; rw [h] at h1; cases h1; cases ho)).trans h1⟩
theorem KeepT.of_below {n₀ : Nat} {A B : World} (hn : n₀ ≤ A.heap.size) (h : Below A.heap.size A B) : KeepT n₀ A B := ⟨h.mono hn, fun q cs t fr h1 _ _ => boxc_below h1 h⟩
def mkMarks (Ds : List Nat) : List Deferred := Ds.map fun D => { target := .collected D, args := #[] }
structure MarksAt (B : Nat) (Ds : List Nat) (W : World) : Prop where
 nodup : Ds.Nodup
 at_ : ∀ D ∈ Ds, B ≤ D ∧ W.heap[D]? = some (.deferred (some []))
theorem MarksAt.keep {B : Nat} {Ds : List Nat} {W W' : World} (h : MarksAt B Ds W) (hk : ∀ D, B ≤ D → W.heap[D]? = some (.deferred (some [])) → W'.heap[D]? = some (.deferred (some []))) : MarksAt B Ds W' :=
 ⟨h.nodup, fun D hD => ⟨(h.at_ D hD).1, hk D (h.at_ D hD).1 (h.at_ D hD).2⟩⟩
theorem MarksAt.lt {B : Nat} {Ds : List Nat} {W : World} (h : MarksAt B Ds W) {D : Nat} (hD : D ∈ Ds) : D < W.heap.size := (Array.getElem?_eq_some_iff.1 (h.at_ D hD).2).1
theorem leaves_marks {F : Fence} {n : Nat} {P : Program} {fn : Func} {tmps : Array Value} {R : Ending → World → Prop} (B : Nat) (J : World → Prop)
  (hJ : ∀ W W' r, J W → W.grownBy W' (some r) → B ≤ r → (∃ o : Obj, W.heap[r]? = some o ∧ o.isCells = false) → J W')
  (hend : ∀ W, J W → LeavesIn F n P fn tmps R [] .returning W) : ∀ (Ds : List Nat) (W : World), MarksAt B Ds W → J W → LeavesInM F n P fn tmps R (mkMarks Ds) .returning W
 | [], W, _, h => hend W h
 | D :: Ds, W, hM, h => by
  obtain ⟨hB, hD⟩ := hM.at_ D (List.mem_cons_self)
  have hnd := List.nodup_cons.1 hM.nodup
  refine ⟨by simp, .inl ⟨D, _, rfl, run_takeDeferred hD, leaves_marks B J hJ hend Ds _ ⟨hnd.2, fun D' h' => ?_⟩ (hJ W _ D h (grownBy_putObj' W D _) hB ⟨_, hD, rfl⟩)⟩⟩
  obtain ⟨h1, h2⟩ := hM.at_ D' (List.mem_cons_of_mem _ h')
  exact ⟨h1, (World.putObj_heap_other (fun e => hnd.1 (by rw [← e]; exact h'))).trans h2⟩
theorem yieldAt_wide {n m : Nat} {P : Program} {l : Nat} {args : Array Value} {W : World} {R : Ending → World → Prop} (h : YieldAt Fence.wide n P l args W R) : YieldAt Fence.wide m P l args W R :=
 let ⟨fn, t, s, b, hy, hR⟩ := h
 ⟨fn, t, s, b, hy, hR.1, fun c cs _ => hR.2 c cs (room_wide _)⟩
theorem roundIn_round {n m q : Nat} {P : Program} {l : Nat} {f : FuncId} {tmps : Array Value} {assign body : Code} {w : World} {R : Ending → World → Prop} (h : RoundIn Fence.wide n P l f tmps assign body w R) : RoundIn (Fence.wide.inRound q) m P l f tmps assign body w R :=
 ⟨trivial, fun c cs _ => h.2 c cs (room_wide _)⟩
theorem SeqStopsN.room {α : Type} {n m : Nat} {P : Program} {g : Nat} {lb : Array Value} {encs : α → Array Value} {Rb : Nat → Prop} {E : α → World → Prop} {G : α → Prop} {Kp : World → World → Prop} {S Sp : List α → Prop} {N : Nat} {w : World} (h : SeqStopsN Fence.wide n P g lb encs Rb E G Kp S Sp N w) : SeqStopsN Fence.wide m P g lb encs Rb E G Kp S Sp N w :=
 fun l J Jx W hW hJ hJx hY h0 => callsIn_wide.2 (callsIn_wide.1 (h l J Jx W hW hJ hJx (fun pre x W1 a b c => yieldAt_wide (hY pre x W1 a b c)) h0))
structure OverAt (P : Program) (g : Nat) (lb : Array Value) (w0 : World) (ov : S41 → Bool) (okc : S41 → Prop) : Prop where
 eg : ∀ args w, (callFunc g args).run P w = .ok (.enter g args) w
 calls : ∀ (c : S41) (W : World), okc c → Below w0.heap.size w0 W → Calls P g (#[.agg #[.int .u32 c.f0, .int .u32 c.f1, .int .i64 c.f2]] ++ lb) W fun e W' => e = .returned (.bool (ov c)) ∧ Below W.heap.size W W'
abbrev rEncs (x : S37) : Array Value := #[.agg #[.int .u64 x.f0, .int .u32 x.f1, .int .u32 x.f2, .string x.f3]]
set_option maxHeartbeats 1000000 in
theorem quad_rows.calls (gv : Value) (A0 : Option Addr) (n0 c0 : Nat) (g : Fn) (xs ys : Array Value) (hg : gv = .func g xs ys) (w : World) :
  Calls Tryz.prog 49 #[gv, .slice A0 n0 c0] w fun e w' =>
   e = .returned (.func (.func 68) #[] #[.pointer (some ⟨w.heap.size + 1, 0, none⟩), .pointer (some ⟨w.heap.size, 0, none⟩)]) ∧ (w.alloc (.cells #[gv] 80)).alloc (.cells #[.slice A0 n0 c0] 42) = w' := by
 subst hg
 refine (callsIn_wide (n := 8)).1 ?_
 refine callsIn_of_wp Tryz.func49 rfl trivial ?_ rfl
 simp only [Tryz.ntmps49, List.size_toArray, List.length_cons, List.length_nil, Nat.reduceAdd, Nat.reduceSub, Array.replicate_succ, Array.replicate_zero, List.push_toArray, List.append_toArray, List.nil_append, List.cons_append]
 gi_wp2
 go_ret
 exact ⟨rfl, rfl⟩
structure RowsInv (pre : List S37) (J : List S37 → World → Prop) (w0 W : World) (l' gO : Nat) (lbO : Array Value) (Bo : Nat) (Ds : List Nat) (wr : World) : Prop where
 j : J pre wr
 y : wr.heap[W.heap.size]? = some (.cells #[.func (.yield l') #[] #[]] 61 (0, 0))
 o : wr.heap[Bo]? = some (.cells #[.func (.func gO) #[] lbO] 80 (0, 0))
 b : Below w0.heap.size w0 wr
 m : MarksAt W.heap.size Ds wr
 z : W.heap.size < wr.heap.size
theorem RowsInv.below {pre : List S37} {J : List S37 → World → Prop} {w0 W : World} {l' gO : Nat} {lbO : Array Value} {Bo : Nat} {Ds : List Nat} {A B : World} (h : RowsInv pre J w0 W l' gO lbO Bo Ds A) (hJ : OwnE (fun _ => False) W.heap.size J) (hb : Below A.heap.size A B) : RowsInv pre J w0 W l' gO lbO Bo Ds B :=
 ⟨hJ _ A B none h.j (grown_of_below hb none) (by simp), boxc_below h.y hb, boxc_below h.o hb, below_call h.b hb, h.m.keep (fun D _ hD => boxc_below hD hb), Nat.lt_of_lt_of_le h.z hb.size⟩
theorem RowsInv.alloc {pre : List S37} {J : List S37 → World → Prop} {w0 W : World} {l' gO : Nat} {lbO : Array Value} {Bo : Nat} {Ds : List Nat} {A : World} (h : RowsInv pre J w0 W l' gO lbO Bo Ds A) (hJ : OwnE (fun _ => False) W.heap.size J) (o : Obj) : RowsInv pre J w0 W l' gO lbO Bo Ds (A.alloc o) :=
 h.below hJ (below_alloc' (Below.refl _ A) o)
theorem RowsInv.round {pre pre' : List S37} {J : List S37 → World → Prop} {w0 W : World} {l' gO : Nat} {lbO : Array Value} {Bo : Nat} {Ds : List Nat} {A B : World} (h : RowsInv pre J w0 W l' gO lbO Bo Ds A) (hj : J pre' B) (hk : KeepT w0.heap.size A B) (hf : KeepsFrom W.heap.size A B) : RowsInv pre' J w0 W l' gO lbO Bo Ds B :=
 ⟨hj, hk.same _ _ _ _ h.y (by decide) (by decide), hk.same _ _ _ _ h.o (by decide) (by decide), h.b.trans hk.below, h.m.keep (fun D hB hD => hf.same D _ hB hD rfl), Nat.lt_of_lt_of_le h.z hf.size⟩
theorem RowsInv.own {pre : List S37} {J : List S37 → World → Prop} {w0 W : World} {l' gO : Nat} {lbO : Array Value} {Bo : Nat} {Ds : List Nat} {A B : World} {B0 : Nat} {row : Option Nat} (h : RowsInv pre J w0 W l' gO lbO Bo Ds A) (hJ : OwnE (fun _ => False) W.heap.size J)
  (hlt : ∀ D ∈ Ds, D < B0) (hW : W.heap.size ≤ B0) (hw : w0.heap.size ≤ B0) (hg : A.grownBy B row) (hr : ∀ r, row = some r → False ∨ (B0 ≤ r ∧ ∃ o : Obj, A.heap[r]? = some o ∧ o.isCells = false)) : RowsInv pre J w0 W l' gO lbO Bo Ds B :=
 ⟨hJ _ A B row h.j hg (fun r e => (hr r e).imp id (fun ⟨h1, h2⟩ => ⟨by omega, h2⟩)), boxc_keep (K := 0) h.y hg (fun r e => ⟨Nat.zero_le _, ((hr r e).resolve_left id).2⟩), boxc_keep (K := 0) h.o hg (fun r e => ⟨Nat.zero_le _, ((hr r e).resolve_left id).2⟩),
  h.b.grown hg h.b.size (fun r e => by have := ((hr r e).resolve_left id).1; omega), ⟨h.m.nodup, fun D hD => ⟨(h.m.at_ D hD).1, keepN (Rb := fun _ => False) (h.m.at_ D hD).2 (hlt D hD) id hg hr⟩⟩, Nat.lt_of_lt_of_le h.z hg.size⟩
theorem pre1 {α : Type} (P f g h : List α) (m : Nat) : (P ++ f.take m) <+: P ++ ((f ++ g) ++ h) := (List.prefix_append_right_inj P).2 ((List.take_prefix m f).trans ((List.prefix_append f g).trans (List.prefix_append _ h)))
theorem pre2 {α : Type} (P f g h q : List α) (hq : q <+: g) : (P ++ f ++ q) <+: P ++ ((f ++ g) ++ h) := by
 rw [List.append_assoc]
 exact (List.prefix_append_right_inj P).2 (((List.prefix_append_right_inj f).2 hq).trans (List.prefix_append _ h))
theorem pre2_len {α : Type} (P f g h q : List α) (hq : q.length < g.length) : (P ++ f ++ q).length < (P ++ ((f ++ g) ++ h)).length := by simp; omega
theorem MarksAt.cons {B D : Nat} {Ds : List Nat} {V0 W : World} (h0 : MarksAt B Ds V0) (h : MarksAt B Ds W) (hB : B ≤ V0.heap.size) (hD : V0.heap.size ≤ D) (hK : W.heap[D]? = some (.deferred (some []))) : MarksAt B (D :: Ds) W :=
 ⟨List.nodup_cons.2 ⟨fun hm => by have := h0.lt hm; omega, h.nodup⟩, fun D' hm => by
  rcases List.mem_cons.1 hm with rfl | hm
  ·exact ⟨by omega, hK⟩
  ·exact h.at_ D' hm⟩
set_option maxRecDepth 100000 in
set_option maxHeartbeats 4000000 in
theorem quad_rows_1.stops (ov : S41 → Bool) (okc : S41 → Prop) (gO : Nat) (lbO : Array Value) (w0 : World) (HO : OverAt Tryz.prog gO lbO w0 ov okc) (d : Nat)
  (ih : ∀ (nodes : List S44), depL nodes < d → allL okc nodes → ∀ (A : Option Addr) (c Bl Bo : Nat) (w : World), Below w0.heap.size w0 w → Kd.C k44 w0 A nodes.length nodes →
   w.heap[Bl]? = some (.cells #[.slice A nodes.length c] 42 (0, 0)) → w.heap[Bo]? = some (.cells #[.func (.func gO) #[] lbO] 80 (0, 0)) →
   SeqStopsN Fence.wide 8 Tryz.prog 68 #[.pointer (some ⟨Bl, 0, none⟩), .pointer (some ⟨Bo, 0, none⟩)] rEncs (fun _ => False) (fun _ _ => True) (fun _ => True) (KeepT w0.heap.size) (fun xs => xs = rowsL ov nodes) (fun pre => pre <+: rowsL ov nodes) (rowsL ov nodes).length w)
  (nodes : List S44) (hd : depL nodes ≤ d) (hall : allL okc nodes) (A : Option Addr) (c Bl Bo : Nat) (w : World) (hw0 : Below w0.heap.size w0 w) (hC : Kd.C k44 w0 A nodes.length nodes)
  (hbl : w.heap[Bl]? = some (.cells #[.slice A nodes.length c] 42 (0, 0))) (hbo : w.heap[Bo]? = some (.cells #[.func (.func gO) #[] lbO] 80 (0, 0))) :
  SeqStopsN Fence.wide 8 Tryz.prog 68 #[.pointer (some ⟨Bl, 0, none⟩), .pointer (some ⟨Bo, 0, none⟩)] rEncs (fun _ => False) (fun _ _ => True) (fun _ => True) (KeepT w0.heap.size) (fun xs => xs = rowsL ov nodes) (fun pre => pre <+: rowsL ov nodes) (rowsL ov nodes).length w := fun l' J Jx W hW hJ hJx hY h0 => by
 refine callsIn_of_wp_marks Tryz.func68 rfl trivial ?_ rfl
 simp only [Tryz.ntmps68, List.size_toArray, List.length_cons, List.length_nil, Nat.reduceAdd, Nat.reduceSub, Array.replicate_succ, Array.replicate_zero, List.push_toArray, List.append_toArray, List.nil_append, List.cons_append]
 have BL := Aside0.mk (boxc_alloc (boxc_below hbl (hW.mono (Nat.le_refl _))) (.cells #[.func (.yield l') #[] #[]] 61))
 have BO := Aside0.mk (boxc_alloc (boxc_below hbo (hW.mono (Nat.le_refl _))) (.cells #[.func (.yield l') #[] #[]] 61))
 have k1 := boxc_cell BL.out 0
 have HC := Aside0.mk hC
 have HJ := Aside0.mk hJ
 have HJX := Aside0.mk hJx
 have HY := Aside0.mk hY
 have H0 := Aside0.mk h0
 have IH := Aside0.mk ih
 have HOV := Aside0.mk HO
 have HD := Aside0.mk hd
 have HALL := Aside0.mk hall
 have hWW : Below w0.heap.size w0 W := hw0.trans (hW.mono hw0.size)
 have HW := Aside0.mk hWW
 clear hC hJ hJx hY h0 ih HO hd hall hbl hbo hWW hW hw0
 gi_wp2_with fail
 refine wpIn_loop (fun a wr => ∃ (j : Nat) (Ds : List Nat) (u5 u7 u8 u12 u13 u14 u15 u16 u17 u18 u19 u20 u21 u22 u23 u24 u25 u26 u27 u28 u29 u30 u31 u32 u33 u34 u35 u36 u37 u38 u39 u40 : Value), a = { tmps := #[.func (.yield l') #[] #[], .pointer (some ⟨Bl, 0, none⟩), .pointer (some ⟨Bo, 0, none⟩), .pointer (some ⟨W.heap.size, 0, none⟩), undef, u5, undef, u7, u8, .slice A nodes.length c, .int .i64 (nodes.length : Int), .int .i64 (j : Int), u12, u13, u14, u15, u16, u17, u18, u19, u20, u21, u22, u23, u24, u25, u26, u27, u28, u29, u30, u31, u32, u33, u34, u35, u36, u37, u38, u39, u40], defers := mkMarks Ds } ∧ j ≤ nodes.length ∧ Aside0 (RowsInv (rowsL ov (nodes.take j)) J w0 W l' gO lbO Bo Ds wr)) (fun a _ => nodes.length - (intOf (a.tmps.getD 11 undef)).toNat) ?start ?round
 case start =>
  exact ⟨0, [], undef, undef, undef, undef, undef, undef, undef, undef, undef, undef, undef, undef, undef, undef, undef, undef, undef, undef, undef, undef, undef, undef, undef, undef, undef, undef, undef, undef, undef, undef, undef, undef, rfl, Nat.zero_le _, ⟨HJ.out [] W _ none H0.out (World.grownBy_alloc W _ none) (by simp), boxc_new W _ _, BO.out, below_alloc' HW.out _, ⟨List.nodup_nil, by simp⟩, by simp⟩⟩
 case round =>
  rintro a wo ⟨j, Ds, u5, u7, u8, u12, u13, u14, u15, u16, u17, u18, u19, u20, u21, u22, u23, u24, u25, u26, u27, u28, u29, u30, u31, u32, u33, u34, u35, u36, u37, u38, u39, u40, rfl, hj, hI⟩
  clear BL BO k1
  by_cases hlt : j < nodes.length
  ·obtain ⟨ad, A3, c3, A4, c4, e, x0, x1, x2, x3, x4, l3, g3, l4, g4⟩ := at_T44 HC.out (j : Int) (by omega) (by omega)
   cases e
   simp only [Int.toNat_natCast] at x0 x1 x2 x3 x4
   generalize hn : rd_T44 nodes (j : Int) = n at *
   have hnj : nodes[j] = n := by rw [← rd_node nodes j hlt]; exact hn
   have hm : n ∈ nodes := hnj ▸ List.getElem_mem hlt
   have hok := allL_mem hm HALL.out
   rw [allN_eq] at hok
   have hsucc := rowsL_take ov hlt
   have hspl := rowsL_split ov hlt
   rw [hnj, rowsN_eq] at hsucc hspl
   have HS := Aside0.mk hsucc
   have HSP := Aside0.mk hspl
   have HOK := Aside0.mk hok
   have HDN := Aside0.mk (show depL n.f2 < d by have := depL_mem hm; rw [depN_eq] at this; have := HD.out; omega)
   have HG3 := Aside0.mk g3
   have HG4 := Aside0.mk g4
   clear hsucc hspl hok hnj hm hn g3 g4
   replace x0 := (hI.out.b.cell (World.block_lt_of_cell? w0 _ x0)).trans x0
   replace x1 := (hI.out.b.cell (World.block_lt_of_cell? w0 _ x1)).trans x1
   replace x2 := (hI.out.b.cell (World.block_lt_of_cell? w0 _ x2)).trans x2
   replace x3 := (hI.out.b.cell (World.block_lt_of_cell? w0 _ x3)).trans x3
   replace x4 := (hI.out.b.cell (World.block_lt_of_cell? w0 _ x4)).trans x4
   have fO : Fence.wide.fn gO := trivial
   have eg := HOV.out.eg
   have o1 := boxc_cell (boxc_alloc hI.out.o (.cells #[.int .u32 n.f0.f0, .int .u32 n.f0.f1, .int .i64 n.f0.f2, .slice A3 n.f1.length c3, .slice A4 n.f2.length c4] 44)) 0
   have hmx := HC.out.2.1
   have hzz := hI.out.z
   gi_wp2_with fail
   refine (callsIn_wide.2 (HOV.out.calls n.f0 _ HOK.out.1 (below_alloc' hI.out.b _))).mono ?_
   rintro e w1 ⟨rfl, hb1⟩
   have hz1 := hb1.size
   simp only [World.size_alloc] at hz1
   have hbn := boxc_below (boxc_new wo #[.int .u32 n.f0.f0, .int .u32 n.f0.f1, .int .i64 n.f0.f2, .slice A3 n.f1.length c3, .slice A4 n.f2.length c4] 44) hb1
   have BN2 := Aside0.mk hbn
   have HI2 := Aside0.mk ((hI.out.alloc HJ.out (.cells #[.int .u32 n.f0.f0, .int .u32 n.f0.f1, .int .i64 n.f0.f2, .slice A3 n.f1.length c3, .slice A4 n.f2.length c4] 44)).below HJ.out hb1)
   have n3 := boxc_cell hbn 3
   clear x0 x1 x2 x3 x4 o1 eg hb1 hbn hI
   cases hov : ov n.f0 with
   | true =>
    have hs := HS.out
    rw [hov, if_pos rfl, List.append_nil] at hs
    have HS1 := Aside0.mk hs
    clear hs hov n3
    gi_wp2_with fail
    refine ⟨⟨j + 1, Ds, _, _, _, _, _, _, _, _, _, _, _, _, _, _, _, _, _, _, _, _, _, _, _, _, _, _, _, _, _, _, _, _, rfl, by omega, ⟨by rw [HS1.out]; exact HI2.out⟩⟩, ?_⟩
    simp [intOf]
    omega
   | false =>
    have hs := HS.out
    have hsp := HSP.out
    rw [hov, if_neg (by simp)] at hs hsp
    have HS1 := Aside0.mk hs
    have HSP1 := Aside0.mk hsp
    clear hs hsp hov
    have hmx3 := HG3.out.2.1
    gi_wp2_with fail
    gi_loopw [22] (fun i V => ∃ k : Nat, i = .int .i64 (k : Int) ∧ k ≤ n.f1.length ∧ Aside0 (RowsInv (rowsL ov (nodes.take j) ++ n.f1.take k) J w0 W l' gO lbO Bo Ds V) ∧ Aside0 (V.heap[wo.heap.size]? = some (.cells #[.int .u32 n.f0.f0, .int .u32 n.f0.f1, .int .i64 n.f0.f2, .slice A3 n.f1.length c3, .slice A4 n.f2.length c4] 44 (0, 0)))) (fun i _ => n.f1.length - (intOf i).toNat)
    case atStart => exact ⟨0, rfl, Nat.zero_le _, ⟨by simpa using HI2.out⟩, BN2⟩
    case round =>
     obtain ⟨k, rfl, hk, hI3, hB3⟩ := hrel
     clear n3 HI2 BN2
     by_cases hk2 : k < n.f1.length
     ·obtain ⟨ad2, e, r0, r1, r2, r3⟩ := at_T37 HG3.out (k : Int) (by omega) (by omega)
      cases e
      simp only [Int.toNat_natCast] at r0 r1 r2 r3
      have hrn : rd_T37 n.f1 (k : Int) = n.f1[k] := by unfold rd_T37; simp [List.getD, hk2]
      generalize hr : rd_T37 n.f1 (k : Int) = r at *
      have htk : n.f1.take (k + 1) = n.f1.take k ++ [r] := by rw [List.take_succ_eq_append_getElem hk2, hrn]
      have HTK := Aside0.mk htk
      have hlen : (rowsL ov (nodes.take j) ++ n.f1.take k).length < (rowsL ov nodes).length := by rw [HSP1.out]; simp; omega
      obtain ⟨fn, tmps, assign, body, hy, hRd⟩ := HY.out _ r _ (hI3.out.alloc HJ.out (.cells #[.int .u64 r.f0, .int .u32 r.f1, .int .u32 r.f2, .string r.f3] 37)).j trivial hlen
      dsimp only [rEncs] at hy
      have y0 := boxc_cell (boxc_alloc hI3.out.y (.cells #[.int .u64 r.f0, .int .u32 r.f1, .int .u32 r.f2, .string r.f3] 37)) 0
      replace r0 := (hI3.out.b.cell (World.block_lt_of_cell? w0 _ r0)).trans r0
      replace r1 := (hI3.out.b.cell (World.block_lt_of_cell? w0 _ r1)).trans r1
      replace r2 := (hI3.out.b.cell (World.block_lt_of_cell? w0 _ r2)).trans r2
      replace r3 := (hI3.out.b.cell (World.block_lt_of_cell? w0 _ r3)).trans r3
      clear hr hrn htk hlen
      gi_wp2_with fail
      refine hRd.mono ?_
      rintro e W3 (⟨rfl, hJ3, -, hk3, hf3⟩ | ⟨rfl, hJx3, hf3⟩)
      ·have HI4 := Aside0.mk ((hI3.out.alloc HJ.out (.cells #[.int .u64 r.f0, .int .u32 r.f1, .int .u32 r.f2, .string r.f3] 37)).round hJ3 hk3 hf3)
       have HB4 := Aside0.mk (hk3.same _ _ _ _ (boxc_alloc hB3.out (.cells #[.int .u64 r.f0, .int .u32 r.f1, .int .u32 r.f2, .string r.f3] 37)) (by decide) (by decide))
       clear hy hRd hJ3 hk3 hf3 r0 r1 r2 r3 y0
       gi_wp2_with fail
       go_roundw
       case rel => exact ⟨k + 1, rfl, by omega, ⟨by rw [HTK.out, ← List.append_assoc]; exact HI4.out⟩, HB4⟩
       case measure => simp [intOf]; omega
      ·have HM4 := Aside0.mk ((hI3.out.alloc HJ.out (.cells #[.int .u64 r.f0, .int .u32 r.f1, .int .u32 r.f2, .string r.f3] 37)).m.keep (fun D hB hD => hf3.same D _ hB hD rfl))
       have HP := Aside0.mk (pre1 (rowsL ov (nodes.take j)) n.f1 (rowsL ov n.f2) (rowsL ov (nodes.drop (j + 1))) (k + 1))
       clear hy hRd r0 r1 r2 r3 y0
       gi_wp2_with fail
       exact leaves_marks W.heap.size (fun V => Jx _ V) (fun X Y q h hg hq ho => HJX.out _ X Y (some q) h hg (fun r e => by cases e; exact .inr ⟨hq, ho⟩))
        (fun V hV => ⟨_, results_none rfl _ _ _, ⟨_, rfl⟩, .inr ⟨_, by rw [HSP1.out, List.append_assoc, ← HTK.out]; exact HP.out, hV⟩⟩) Ds _ HM4.out hJx3
     ·have hkk : n.f1.take k = n.f1 := List.take_of_length_le (by omega)
      have hI5 := hI3.out
      rw [hkk] at hI5
      have HI5 := Aside0.mk hI5
      have o3 := boxc_cell hI5.o 0
      have n4 := boxc_cell hB3.out 4
      have f38 : Fence.wide.fn 49 := trivial
      clear hI5 hkk hI3
      gi_wp2_with (gi_at_call 49; refine (callsIn_wide.2 (quad_rows.calls (.func (.func gO) #[] lbO) A4 n.f2.length c4 _ _ _ rfl _)).mono ?_; rintro e w4 ⟨rfl, rfl⟩)
      obtain ⟨V0, hV0⟩ : ∃ V0, (wr.alloc (.cells #[.func (.func gO) #[] lbO] 80)).alloc (.cells #[.slice A4 n.f2.length c4] 42) = V0 := ⟨_, rfl⟩
      rw [hV0]
      have hI6 : RowsInv (rowsL ov (nodes.take j) ++ n.f1) J w0 W l' gO lbO Bo Ds V0 := by rw [← hV0]; exact (HI5.out.alloc HJ.out _).alloc HJ.out _
      have hbo6 : V0.heap[wr.heap.size]? = some (.cells #[.func (.func gO) #[] lbO] 80 (0, 0)) := by rw [← hV0]; exact boxc_alloc (boxc_new wr _ _) _
      have hbl6 : V0.heap[wr.heap.size + 1]? = some (.cells #[.slice A4 n.f2.length c4] 42 (0, 0)) := by rw [← hV0]; have := boxc_new (wr.alloc (.cells #[.func (.func gO) #[] lbO] 80)) #[.slice A4 n.f2.length c4] 42; simpa using this
      clear hV0 o3 n4
      refine wpIn_rangeFunc_N (w := V0) rfl (by decide) (gf := 68) (lb := #[.pointer (some ⟨wr.heap.size + 1, 0, none⟩), .pointer (some ⟨wr.heap.size, 0, none⟩)]) rfl trivial (enters_of Tryz.func68 (by kernel_rfl) rfl)
       (SeqStopsN.room (IH.out n.f2 HDN.out HOK.out.2 A4 c4 (wr.heap.size + 1) wr.heap.size V0 hI6.b HG4.out hbl6 hbo6))
       (fun r e => e.elim) (fun h k => h.trans k) (fun V q o o' hq h hc _ => KeepT.put V q o o' (Nat.le_trans hI6.b.size hq) h hc) (Below.refl _ _) (fun _ => rfl)
       (fun pre V => RowsInv (rowsL ov (nodes.take j) ++ n.f1 ++ pre) J w0 W l' gO lbO Bo Ds V ∧ V0.heap.size ≤ V.heap.size)
       (fun c pre V => c = .ret ∧ Jx (rowsL ov (nodes.take j) ++ n.f1 ++ pre) V ∧ MarksAt W.heap.size Ds V)
       (fun s X Y row ⟨h, hz⟩ hg hr => ⟨h.own HJ.out (fun D hD => hI6.m.lt hD) (Nat.le_of_lt hI6.z) hI6.b.size hg hr, Nat.le_trans hz hg.size⟩)
       (fun c s X Y row ⟨h, hjx, hm⟩ hg hr => ⟨h, HJX.out _ X Y row hjx hg (fun r e => (hr r e).imp id (fun ⟨h1, h2⟩ => ⟨Nat.le_trans (Nat.le_of_lt hI6.z) h1, h2⟩)), ⟨hm.nodup, fun D hD => ⟨(hm.at_ D hD).1, keepN (Rb := fun _ => False) (hm.at_ D hD).2 (hI6.m.lt hD) id hg hr⟩⟩⟩)
       ⟨by rw [List.append_nil]; exact hI6, Nat.le_refl _⟩
       (fun (x : S37) (a' : Act) (V : World) => ∃ B8 : Nat, V.heap[B8]? = some (.cells #[.int .u64 x.f0, .int .u32 x.f1, .int .u32 x.f2, .string x.f3] 37 (0, 0)) ∧ a' = { tmps := #[.func (.yield l') #[] #[], .pointer (some ⟨Bl, 0, none⟩), .pointer (some ⟨Bo, 0, none⟩), .pointer (some ⟨W.heap.size, 0, none⟩), undef, .pointer (some ⟨wo.heap.size, 0, none⟩), undef, u7, .pointer (some ⟨B8, 0, none⟩), .slice (some ad) nodes.length c, .int .i64 (nodes.length : Int), .int .i64 (j : Int), .bool true, .pointer (some (ad.add (j * 5))), .agg #[.int .u32 n.f0.f0, .int .u32 n.f0.f1, .int .i64 n.f0.f2, .slice A3 n.f1.length c3, .slice A4 n.f2.length c4], .func (.func gO) #[] lbO, .pointer (some ⟨wo.heap.size, 0, none⟩), .agg #[.int .u32 n.f0.f0, .int .u32 n.f0.f1, .int .i64 n.f0.f2], .bool false, .pointer (some ⟨wo.heap.size, 3, none⟩), .slice A3 n.f1.length c3, .int .i64 (n.f1.length : Int), .int .i64 (k : Int), .bool false, u24, u25, u26, u27, u28, u29, u30, .func (.func gO) #[] lbO, .pointer (some ⟨wo.heap.size, 4, none⟩), .slice A4 n.f2.length c4, .func (.func 68) #[] #[.pointer (some ⟨wr.heap.size + 1, 0, none⟩), .pointer (some ⟨wr.heap.size, 0, none⟩)], .agg #[.int .u64 x.f0, .int .u32 x.f1, .int .u32 x.f2, .string x.f3], u36, u37, u38, u39, u40], defers := [] })
       (fun x a' s X Y row ⟨B8, h8, h9⟩ hg hr => ⟨B8, boxc_keep (K := 0) h8 hg (fun r e => ⟨Nat.zero_le _, (hr r e).2⟩), h9⟩) ?assign ?body ?done ?stop
      case assign =>
       rintro q pre x V K ⟨hI, hz⟩ _ hK
       have HIx := Aside0.mk hI
       clear hI
       gi_wp2_with fail
       exact hK _ _ (keeps_below (below_alloc' (Below.refl _ V) _)) (KeepT.of_below HIx.out.b.size (below_alloc' (Below.refl _ V) _)) ⟨HIx.out.alloc HJ.out _, by simp; omega⟩ ⟨_, boxc_new V _ _, rfl⟩
      case body =>
       rintro q pre x a' V hq ⟨rc, hrc⟩ ⟨hI, hz⟩ ⟨B8, h8, rfl⟩ hlt2
       obtain ⟨fn, tmps, assign, body, hy, hRd⟩ := HY.out _ x V hI.j trivial (by rw [HSP1.out]; exact pre2_len _ _ _ _ _ hlt2)
       dsimp only [rEncs] at hy
       have y0 := boxc_cell hI.y 0
       have e0 := boxc_cell h8 0
       have e1 := boxc_cell h8 1
       have e2 := boxc_cell h8 2
       have e3 := boxc_cell h8 3
       have HIx := Aside0.mk hI
       clear hI hrc
       gi_wp2_with fail
       refine (roundIn_round hRd).mono ?_
       rintro e W3 (⟨rfl, hJ3, -, hk3, hf3⟩ | ⟨rfl, hJx3, hf3⟩)
       ·clear hy hRd y0 e0 e1 e2 e3
        gi_wp2_with fail
        exact ⟨⟨hf3.size, fun k o hk => hf3.same k o (by have := hI6.z; omega)⟩, hk3, trivial, by rw [← List.append_assoc]; exact HIx.out.round hJ3 hk3 hf3, Nat.le_trans hz hf3.size⟩
       ·clear hy hRd y0 e0 e1 e2 e3
        gi_wp2_with fail
        exact ⟨⟨hf3.size, fun k o hk => hf3.same k o (by have := hI6.z; omega)⟩, rfl, by rw [← List.append_assoc]; exact hJx3, HIx.out.m.keep (fun D hB hD => hf3.same D _ hB hD rfl)⟩
      case done =>
       rintro D xs V hD rfl ⟨hI, hz⟩ hK
       have HIx := Aside0.mk hI
       have HK := Aside0.mk hK
       clear hI hK
       gi_wp2_with fail
       refine ⟨⟨j + 1, D :: Ds, _, _, _, _, _, _, _, _, _, _, _, _, _, _, _, _, _, _, _, _, _, _, _, _, _, _, _, _, _, _, _, _, rfl, by omega, ⟨⟨by rw [HS1.out, ← List.append_assoc]; exact HIx.out.j, HIx.out.y, HIx.out.o, HIx.out.b, MarksAt.cons hI6.m HIx.out.m (Nat.le_of_lt hI6.z) hD HK.out, HIx.out.z⟩⟩⟩, ?_⟩
       simp [intOf]
       omega
      case stop =>
       rintro D cc pre V hD hpre ⟨rfl, hjx, hM⟩ hK
       have HP := Aside0.mk (pre2 (rowsL ov (nodes.take j)) n.f1 (rowsL ov n.f2) (rowsL ov (nodes.drop (j + 1))) pre hpre)
       have HM6 := Aside0.mk (MarksAt.cons hI6.m hM (Nat.le_of_lt hI6.z) hD hK)
       clear hM hK hpre
       gi_wp2_with fail
       exact leaves_marks W.heap.size (fun V => Jx _ V) (fun X Y q h hg hq ho => HJX.out _ X Y (some q) h hg (fun r e => by cases e; exact .inr ⟨hq, ho⟩))
        (fun V hV => ⟨_, results_none rfl _ _ _, ⟨_, rfl⟩, .inr ⟨_, by rw [HSP1.out]; exact HP.out, hV⟩⟩) (D :: Ds) _ HM6.out hjx
  ·gi_wp2_with fail
   have hj2 : nodes.take j = nodes := List.take_of_length_le (by omega)
   have hI7 := hI.out
   rw [hj2] at hI7
   exact leaves_marks W.heap.size (fun V => J _ V) (fun X Y q h hg hq ho => HJ.out _ X Y (some q) h hg (fun r e => by cases e; exact .inr ⟨hq, ho⟩))
    (fun V hV => ⟨_, results_none rfl _ _ _, ⟨_, rfl⟩, .inl ⟨_, rfl, hV⟩⟩) Ds _ hI7.m hI7.j
theorem rows_all (ov : S41 → Bool) (okc : S41 → Prop) (gO : Nat) (lbO : Array Value) (w0 : World) (HO : OverAt Tryz.prog gO lbO w0 ov okc) (d : Nat) : ∀ (nodes : List S44), depL nodes ≤ d → allL okc nodes → ∀ (A : Option Addr) (c Bl Bo : Nat) (w : World), Below w0.heap.size w0 w → Kd.C k44 w0 A nodes.length nodes →
   w.heap[Bl]? = some (.cells #[.slice A nodes.length c] 42 (0, 0)) → w.heap[Bo]? = some (.cells #[.func (.func gO) #[] lbO] 80 (0, 0)) →
   SeqStopsN Fence.wide 8 Tryz.prog 68 #[.pointer (some ⟨Bl, 0, none⟩), .pointer (some ⟨Bo, 0, none⟩)] rEncs (fun _ => False) (fun _ _ => True) (fun _ => True) (KeepT w0.heap.size) (fun xs => xs = rowsL ov nodes) (fun pre => pre <+: rowsL ov nodes) (rowsL ov nodes).length w := by
 induction d using Nat.strongRecOn with
 | _ d ihd =>
  intro nodes hd hall A c Bl Bo w hw hC h1 h2
  exact quad_rows_1.stops ov okc gO lbO w0 HO d (fun ns hlt hal A c Bl Bo w hw hC h1 h2 => ihd (depL ns) hlt ns (Nat.le_refl _) hal A c Bl Bo w hw hC h1 h2) nodes hd hall A c Bl Bo w hw hC h1 h2
end
section
open Go.Sort Go.Lib Go.Shelf Go.Proofs.YtoimgijhekahhaaGreatSort
attribute [local go_sem] Oper.semAt_some
def cmpI (x y : Int) : Int := if x < y then -1 else if x > y then 1 else 0
theorem cmpI_neg {x y : Int} : cmpI x y < 0 ↔ x < y := by
 unfold cmpI
 by_cases h1 : x < y
 ·simp [h1]
 ·by_cases h2 : x > y <;> simp [h1, h2]
theorem cmp_fI (x y : Int) : cmp_Compare_uint64.f x y = some (cmpI x y) := by
 unfold cmp_Compare_uint64.f cmp_isNaN_uint64.f cmpI
 simp
 split <;> simp_all
 split <;> simp_all
theorem drewN_grow (w : World) (os : Array Obj) (n : Nat) : (grow w os).drewN n = grow (w.drewN n) os := rfl
set_option maxRecDepth 100000 in
set_option maxHeartbeats 4000000 in
theorem sorted1_calls (x y : S37) (W : World) : Calls Tryz.prog 66 #[.agg (encR x).toArray, .agg (encR y).toArray] W fun e w' => e = .returned (.int .i64 (cmpI x.f0 y.f0)) ∧ ∃ q os', w' = grow (W.drewN q) os' := by
 unfold encR
 go_enter Tryz.func66, Tryz.ntmps66
 go_wp2_with (go_at_call 67; refine (cmp_Compare_uint64.calls x.f0 y.f0 (cmpI x.f0 y.f0) _ (cmp_fI _ _)).mono ?_; rintro e w1 ⟨rfl, hb⟩)
 obtain ⟨q, rfl⟩ := hb.out
 go_ret
 exact ⟨rfl, q, _, by rw [alloc_eq_grow, alloc_eq_grow, grow_grow, drewN_grow]⟩
def sortP (l : List S37) : List S37 := l.mergeSort fun a b => decide (a.f0 ≤ b.f0)
theorem sortP_perm (l : List S37) : (sortP l).Perm l := List.mergeSort_perm _ _
theorem sortP_le (l : List S37) : (sortP l).Pairwise fun a b => a.f0 ≤ b.f0 := by
 have := List.pairwise_mergeSort (le := fun a b : S37 => decide (a.f0 ≤ b.f0)) (fun a b c h1 h2 => by simp at *; omega) (fun a b => by simp; omega) l
 exact this.imp (fun h => by simpa using h)
theorem nodup_inj {l : List S37} (h : (l.map (·.f0)).Nodup) {a b : S37} (ha : a ∈ l) (hb : b ∈ l) (e : a.f0 = b.f0) : a = b := by
 induction l with
 | nil => simp at ha
 | cons c l ih =>
  rw [List.map_cons, List.nodup_cons] at h
  rcases List.mem_cons.1 ha with ea | ha1
  ·rcases List.mem_cons.1 hb with eb | hb1
   ·rw [ea, eb]
   ·exact absurd (List.mem_map.2 ⟨b, hb1, by rw [← e, ea]⟩) h.1
  ·rcases List.mem_cons.1 hb with eb | hb1
   ·exact absurd (List.mem_map.2 ⟨a, ha1, by rw [e, eb]⟩) h.1
   ·exact ih h.2 ha1 hb1
theorem sortP_unique {l l' : List S37} (hnd : (l.map (·.f0)).Nodup) (hp : l'.Perm l) (hs : l'.Pairwise fun a b => a.f0 ≤ b.f0) : l' = sortP l := by
 refine List.Perm.eq_of_pairwise (le := fun a b => a.f0 ≤ b.f0) ?_ hs (sortP_le l) (hp.trans (sortP_perm l).symm)
 intro a b ha hb h1 h2
 exact nodup_inj hnd (hp.mem_iff.1 ha) ((sortP_perm l).mem_iff.1 hb) (by omega)
theorem swoR : SWO (ltOf fun x y : S37 => cmpI x.f0 y.f0) where
 irrefl x := by unfold ltOf; simp [cmpI_neg]
 trans x y z h1 h2 := by unfold ltOf at *; simp only [decide_eq_true_eq, cmpI_neg] at *; omega
 ntrans x y z h1 h2 := by unfold ltOf at *; simp only [decide_eq_false_iff_not, cmpI_neg] at *; omega
instance : Inhabited S37 := ⟨z37⟩
theorem sortRows_calls (w : World) (base : Nat) (v : Value) (rows : List S37) (h : w.ownsRow base 37 4 v rows.length (rows.flatMap encR)) (hnd : (rows.map (·.f0)).Nodup) (hlen : rows.length < 4611686018427387904) :
  Calls Tryz.prog 65 #[v, .func (.func 66) #[] #[]] w fun e w' => e = .returned (.tuple #[]) ∧ w'.ownsRow base 37 4 v rows.length ((sortP rows).flatMap encR) ∧ w.grownBy w' v.ownBlock := by
 have hc := sort_own sortRow 4 (by decide) Tryz.isAgg37 Tryz.sizeOf37 encR (fun _ => rfl) (fun x v hv => by simp [encR] at hv; rcases hv with rfl | rfl | rfl | rfl <;> rfl) (fun x y => cmpI x.f0 y.f0) swoR 66 #[]
  (enters_of Tryz.func66 (by kernel_rfl) rfl) base 37 v rows w h hlen (fun blk off m os dk _ x y => sorted1_calls x y _)
 refine Calls.mono hc ?_
 rintro r w' ⟨rfl, l', hp, hs, ho, hg⟩
 have hl := sortP_unique hnd hp (hs.imp (fun h => by rw [cmpI_neg] at h; omega))
 rw [hl] at ho
 exact ⟨rfl, ho, hg⟩
structure IsAt (P : Program) (g : Nat) (lb : Array Value) (w0 : World) (is : S37 → Bool) : Prop where
 eg : ∀ args w, (callFunc g args).run P w = .ok (.enter g args) w
 calls : ∀ (x : S37) (W : World), Below w0.heap.size w0 W → Calls P g (#[.agg #[.int .u64 x.f0, .int .u32 x.f1, .int .u32 x.f2, .string x.f3]] ++ lb) W fun e W' => e = .returned (.bool (is x)) ∧ Below W.heap.size W W'
structure SortInv (is : S37 → Bool) (w : World) (gI : Nat) (lbI : Array Value) (pre : List S37) (V : World) : Prop where
 i : V.heap[w.heap.size]? = some (.cells #[.func (.func gI) #[] lbI] 61 (0, 0))
 o : ∃ v : Value, v.oneCell' = true ∧ V.heap[w.heap.size + 1]? = some (.cells #[v] 22 (0, 0)) ∧ V.ownsRow w.heap.size 37 4 v (pre.filter is).length ((pre.filter is).flatMap encR)
 b : Below w.heap.size w V
 z : w.heap.size + 2 ≤ V.heap.size
theorem KeepT.of_grown {n₀ : Nat} {A B : World} {row : Option Nat} (h : A.grownBy B row) (hn : n₀ ≤ A.heap.size) (hr : ∀ r, row = some r → n₀ ≤ r ∧ ∃ cs t fr, A.heap[r]? = some (.cells cs t fr) ∧ (t = 37 ∨ t = 22)) : KeepT n₀ A B :=
 ⟨(Below.refl n₀ A).grown h hn (fun r e => (hr r e).1), fun q cs t fr h1 h2 h3 => (h.block q (Array.getElem?_eq_some_iff.1 h1).1 (fun e => by
  obtain ⟨_, cs', t', fr', h4, h5⟩ := hr q e.symm
  rw [h1] at h4
  cases h4
  rcases h5 with h5 | h5
  ·exact h2 h5
  ·exact h3 h5)).trans h1⟩
theorem KeepsFrom.of_grown {B : Nat} {X Y : World} {row : Option Nat} (h : X.grownBy Y row) (hr : ∀ r, row = some r → ∃ o : Obj, X.heap[r]? = some o ∧ o.isCells = true) : KeepsFrom B X Y :=
 ⟨h.size, fun k o _ hk ho => (h.block k (Array.getElem?_eq_some_iff.1 hk).1 (fun e => by
  obtain ⟨o', h1, h2⟩ := hr k e.symm
  rw [hk] at h1
  cases h1
  rw [ho] at h2
  cases h2)).trans hk⟩
theorem own_row {W : World} {base n size : Nat} {e : TypeId} {v : Value} {xs : List Value} (h : W.ownsRow base e size v n xs) : ∀ r, v.ownBlock = some r → base ≤ r ∧ ∃ cs t fr, W.heap[r]? = some (.cells cs t fr) ∧ t = e := fun r hr => by
 obtain ⟨cs, hc⟩ := own_typed h r hr
 exact ⟨own_base h r hr, cs, _, _, hc, rfl⟩
set_option maxRecDepth 100000 in
set_option maxHeartbeats 4000000 in
theorem quad_sorted.calls (gS : Nat) (lbS : Array Value) (gI : Nat) (lbI : Array Value) (is : S37 → Bool) (Ls : List S37) (w : World) (egS : ∀ args w, (callFunc gS args).run Tryz.prog w = .ok (.enter gS args) w)
  (hseq : SeqStopsN Fence.wide 8 Tryz.prog gS lbS rEncs (fun _ => False) (fun _ _ => True) (fun _ => True) (KeepT w.heap.size) (fun xs => xs = Ls) (fun pre => pre <+: Ls) Ls.length w)
  (HI : IsAt Tryz.prog gI lbI w is) (hlen : Ls.length ≤ 1000000) (hnd : ((Ls.filter is).map (·.f0)).Nodup) :
  Calls Tryz.prog 48 #[.func (.func gS) #[] lbS, .func (.func gI) #[] lbI] w fun e w' => ∃ v, e = .returned v ∧ Kd.R k37 37 w' w.heap.size (fun _ => True) v (sortP (Ls.filter is)) ∧ Below w.heap.size w w' := by
 refine (callsIn_wide (n := 9)).1 ?_
 refine callsIn_of_wp_marks Tryz.func48 rfl trivial ?_ rfl
 simp only [Tryz.ntmps48, List.size_toArray, List.length_cons, List.length_nil, Nat.reduceAdd, Nat.reduceSub, Array.replicate_succ, Array.replicate_zero, List.push_toArray, List.append_toArray, List.nil_append, List.cons_append]
 have HSEQ := Aside0.mk hseq
 have HIS := Aside0.mk HI
 have HND := Aside0.mk hnd
 have HLEN := Aside0.mk hlen
 clear hseq HI hnd hlen
 gi_wp2_with fail
 obtain ⟨V0, hV0⟩ : ∃ V0 : World, ((w.alloc (.cells #[.func (.func gI) #[] lbI] 61)).alloc (.cells #[.slice none 0 0] 22)) = V0 := ⟨_, rfl⟩
 rw [hV0]
 have hz0 : V0.heap.size = w.heap.size + 2 := by rw [← hV0]; simp
 have hB0 : Below w.heap.size w V0 := by rw [← hV0]; exact below_alloc' (below_alloc' (Below.refl _ w) _) _
 have b1 : V0.heap[w.heap.size]? = some (.cells #[.func (.func gI) #[] lbI] 61 (0, 0)) := by rw [← hV0]; exact boxc_alloc (boxc_new w _ _) _
 have b2 : V0.heap[w.heap.size + 1]? = some (.cells #[.slice none 0 0] 22 (0, 0)) := by rw [← hV0]; have := boxc_new (w.alloc (.cells #[.func (.func gI) #[] lbI] 61)) #[.slice none 0 0] 22; simpa using this
 clear hV0
 refine wpIn_rangeFunc_N (w := V0) rfl (by decide) (gf := gS) (lb := lbS) rfl trivial egS (SeqStopsN.room HSEQ.out)
  (fun r e => e.elim) (fun h k => h.trans k) (fun V q o o' hq h hc _ => KeepT.put V q o o' (by omega) h hc) hB0 (fun _ => rfl)
  (fun pre V => SortInv is w gI lbI pre V) (fun _ _ _ => False)
  (fun s X Y row h hg hr => by
   have hcell : ∀ {q : Nat} {cs : Array Value} {t : TypeId} {fr : Nat × Nat}, X.heap[q]? = some (.cells cs t fr) → Y.heap[q]? = some (.cells cs t fr) := fun h => boxc_keep (K := 0) h hg (fun r e => ⟨Nat.zero_le _, ((hr r e).resolve_left id).2⟩)
   obtain ⟨v, hv1, hv2, hv3⟩ := h.o
   refine ⟨hcell h.i, ⟨v, hv1, hcell hv2, hv3.kept hg ?_⟩, h.b.grown hg h.b.size (fun r e => by have := ((hr r e).resolve_left id).1; omega), Nat.le_trans h.z hg.size⟩
   cases hvb : v.ownBlock with
   | none => exact .inl rfl
   | some r =>
    refine .inr (fun e => ?_)
    obtain ⟨_, o, ho, hoc⟩ := (hr r e.symm).resolve_left id
    obtain ⟨_, cs, t, fr, hc, _⟩ := own_row hv3 r hvb
    rw [hc] at ho
    cases ho
    cases hoc)
  (fun c s X Y row h hg hr => h)
  ⟨b1, ⟨_, rfl, b2, own_nil _ _ _ _⟩, hB0, by omega⟩
  (fun (x : S37) (a' : Act) (V : World) => ∃ B6 : Nat, V.heap[B6]? = some (.cells #[.int .u64 x.f0, .int .u32 x.f1, .int .u32 x.f2, .string x.f3] 37 (0, 0)) ∧ V0.heap.size ≤ B6 ∧ a' = { tmps := #[.func (.func gS) #[] lbS, .func (.func gI) #[] lbI, undef, .pointer (some ⟨w.heap.size, 0, none⟩), .slice none 0 0, .pointer (some ⟨w.heap.size + 1, 0, none⟩), .pointer (some ⟨B6, 0, none⟩), .func (.func gS) #[] lbS, .agg #[.int .u64 x.f0, .int .u32 x.f1, .int .u32 x.f2, .string x.f3], undef, undef, undef, undef, undef, undef, undef, undef, undef, undef], defers := [] })
  (fun x a' s X Y row ⟨B6, h6, h7, h8⟩ hg hr => ⟨B6, boxc_keep (K := 0) h6 hg (fun r e => ⟨Nat.zero_le _, (hr r e).2⟩), h7, h8⟩) ?assign ?body ?done ?stop
 case assign =>
  rintro q pre x V K hI _ hK
  have HIx := Aside0.mk hI
  clear hI
  gi_wp2_with fail
  refine hK _ _ (keeps_below (below_alloc' (Below.refl _ V) _)) (KeepT.of_below HIx.out.b.size (below_alloc' (Below.refl _ V) _)) ?_ ⟨_, boxc_new V _ _, ?_, rfl⟩
  ·obtain ⟨v, hv1, hv2, hv3⟩ := HIx.out.o
   exact ⟨boxc_alloc HIx.out.i _, ⟨v, hv1, boxc_alloc hv2 _, pw_own_below hv3 (below_alloc' (Below.refl _ V) _)⟩, below_alloc' HIx.out.b _, by have := HIx.out.z; simp; omega⟩
  ·have := HIx.out.z; omega
 case body =>
  rintro q pre x a' V hq ⟨rc, hrc⟩ hI ⟨B6, h6, h7, rfl⟩ hlt
  have y0 := boxc_cell hI.i 0
  have e0 := boxc_cell h6 0
  have e1 := boxc_cell h6 1
  have e2 := boxc_cell h6 2
  have e3 := boxc_cell h6 3
  have fI : Fence.wide.fn gI := trivial
  have eg := HIS.out.eg
  have HIx := Aside0.mk hI
  clear hI hrc
  gi_wp2_with fail
  refine CallsIn.mono (CallsIn.inRound q (callsIn_wide.2 (HIS.out.calls x V HIx.out.b))) ?_
  rintro e w1 ⟨rfl, hb1⟩
  have hzV := HIx.out.z
  have hz1 := hb1.size
  have i1 := boxc_below HIx.out.i hb1
  obtain ⟨v, hv1, hv2, hv3⟩ := HIx.out.o
  have hv4 := boxc_below hv2 hb1
  have hv5 := pw_own_below hv3 hb1
  have hB1 := below_call HIx.out.b hb1
  clear y0 e0 e1 e2 e3 eg
  cases hov : is x with
  | false =>
   gi_wp2_with fail
   refine ⟨keeps_below hb1, KeepT.of_below HIx.out.b.size hb1, trivial, ⟨i1, ⟨v, hv1, hv4, ?_⟩, hB1, by omega⟩⟩
   rw [List.filter_append, show [x].filter is = [] by simp [hov], List.append_nil]
   exact hv5
  | true =>
   have c0 := boxc_cell hv4 0
   have h6' := boxc_below h6 hb1
   have e0 := boxc_cell h6' 0
   have e1 := boxc_cell h6' 1
   have e2 := boxc_cell h6' 2
   have e3 := boxc_cell h6' 3
   have hpl : (pre.filter is).length ≤ 1000000 := by have := List.length_filter_le is pre; have := HLEN.out; omega
   obtain ⟨i0, hi, hi0, hi1, hi2⟩ := info_parts info37
   have hown := pw_own_below hv5 (below_alloc' (Below.refl _ w1) (.cells #[.int .u64 x.f0, .int .u32 x.f1, .int .u32 x.f2, .string x.f3] 37))
   have hnews : ∀ j u, [.int .u64 x.f0, .int .u32 x.f1, .int .u32 x.f2, .string x.f3][j]? = some u → (w1.alloc (.cells #[.int .u64 x.f0, .int .u32 x.f1, .int .u32 x.f2, .string x.f3] 37)).cell? ((⟨w1.heap.size, 0, none⟩ : Addr).add j) = some u := by simpa using World.news_of_block (cs := #[.int .u64 x.f0, .int .u32 x.f1, .int .u32 x.f2, .string x.f3]) (t := 37) (fr := (0, 0)) (heap_alloc_new w1 (.cells #[.int .u64 x.f0, .int .u32 x.f1, .int .u32 x.f2, .string x.f3] 37))
   have hbase : w.heap.size ≤ (w1.alloc (.cells #[.int .u64 x.f0, .int .u32 x.f1, .int .u32 x.f2, .string x.f3] 37)).heap.size := by simp; omega
   have hne : some (w.heap.size + 1) ≠ v.ownBlock := own_ne hown (boxc_alloc hv4 _) (by decide)
   have HV4 := Aside0.mk hv4
   have HB1 := Aside0.mk hb1
   have HI1 := Aside0.mk i1
   have HBB := Aside0.mk hB1
   have HOV := Aside0.mk hov
   have HPL := Aside0.mk hpl
   clear hv3 hv5 hv2 h6' h6 hb1 i1 hB1 hov hpl hv4
   gi_wp2_with (gi_at_builtin; refine wpListIn_append_own _ rfl (.tmp 12) (.tmp 14) 22 rfl w.heap.size 37 i0 _ 4 32 Tryz.underlying22 hi hi0 hi1 hi2 rfl (by omega) v _ _ rfl hown ⟨w1.heap.size, 0, none⟩ 1 1 [.int .u64 x.f0, .int .u32 x.f1, .int .u32 x.f2, .string x.f3] rfl rfl hnews (by simp [Value.oneCell']) (by have := HPL.out; simp only [maxLen]; omega) (by have := HPL.out; omega) hbase ?_; intro v5 w5 ho5 hg5 _; obtain ⟨A5, c5, rfl⟩ := own_slice ho5; have b5 := blk_grown (boxc_alloc HV4.out (.cells #[.int .u64 x.f0, .int .u32 x.f1, .int .u32 x.f2, .string x.f3] 37)) hg5 hne; have q5 := boxc_cell b5 0; have z5 := boxc_frozen b5 0; have HO5 := Aside0.mk ho5; have HG5 := Aside0.mk hg5; have HB5 := Aside0.mk b5; clear ho5 hg5 b5)
   have hzA : (w1.alloc (.cells #[.int .u64 x.f0, .int .u32 x.f1, .int .u32 x.f2, .string x.f3] 37)).heap.size = w1.heap.size + 1 := by simp
   have hrow := own_row hown
   have ha1 : Below w1.heap.size w1 (w1.alloc (.cells #[.int .u64 x.f0, .int .u32 x.f1, .int .u32 x.f2, .string x.f3] 37)) := below_alloc' (Below.refl _ w1) _
   have hi5 := boxc_far (blk_grown (boxc_alloc HI1.out (.cells #[.int .u64 x.f0, .int .u32 x.f1, .int .u32 x.f2, .string x.f3] 37)) HG5.out (own_ne hown (boxc_alloc HI1.out (.cells #[.int .u64 x.f0, .int .u32 x.f1, .int .u32 x.f2, .string x.f3] 37)) (by decide))) (a := ⟨w.heap.size + 1, 0, none⟩) (by simp) (.slice A5 ((pre.filter is).length + 1) c5)
   have hb5 : Below w.heap.size w w5 := (below_alloc' HBB.out (.cells #[.int .u64 x.f0, .int .u32 x.f1, .int .u32 x.f2, .string x.f3] 37)).grown HG5.out hbase (fun r e => (hrow r e).1)
   have hf : (pre ++ [x]).filter is = pre.filter is ++ [x] := by rw [List.filter_append]; simp [HOV.out]
   refine ⟨(keeps_below HB1.out).trans ((keeps_below ha1).trans ((KeepsFrom.of_grown HG5.out (fun r e => by obtain ⟨_, cs, t, fr, h, _⟩ := hrow r e; exact ⟨_, h, rfl⟩)).trans ((KeepsOthers.setCell _ _ _).from _))) |> fun h => ⟨h.size, fun k o hk => h.same k o (by omega)⟩, ?_, trivial, ⟨hi5, ⟨.slice A5 ((pre.filter is).length + 1) c5, rfl, by simpa using blk_set HB5.out 0 (.slice A5 ((pre.filter is).length + 1) c5), ?_⟩, hb5.setCell (by simp) _, by have := HG5.out.size; simp at this ⊢; omega⟩⟩
   ·refine ((KeepT.of_below HIx.out.b.size HB1.out).trans (KeepT.of_below (by omega) ha1)).trans ((KeepT.of_grown HG5.out hbase (fun r e => by obtain ⟨h1, cs, t, fr, h, h2⟩ := hrow r e; exact ⟨h1, cs, t, fr, h, .inl h2⟩)).trans ?_)
    exact KeepT.of_grown (grownBy_setCell' w5 (w.heap.size + 1) _) (by have := HG5.out.size; simp at this; omega) (fun r e => by cases e; exact ⟨by omega, _, _, _, HB5.out, .inr rfl⟩)
   ·rw [hf, List.length_append, List.length_singleton, List.flatMap_append]
    exact own_setCell (by simpa [encR] using HO5.out) (own_ne HO5.out HB5.out (by decide)) _
 case done =>
  rintro D xs V hD rfl hI hK
  obtain ⟨v, hv1, hv2, hv3⟩ := hI.o
  have hzV := hI.z
  have c0 := boxc_cell hv2 0
  have hl : (xs.filter is).length < 4611686018427387904 := by have := List.length_filter_le is xs; have := HLEN.out; omega
  have hne : some (w.heap.size + 1) ≠ v.ownBlock := own_ne hv3 hv2 (by decide)
  have hrow := own_row hv3
  have f63 : Fence.wide.fn 65 := trivial
  have HIx := Aside0.mk hI
  have HV3 := Aside0.mk hv3
  have HK := Aside0.mk hK
  clear hI hv3 hK
  gi_wp2_with (gi_at_call 65; refine (callsIn_wide.2 (sortRows_calls V w.heap.size v (xs.filter is) HV3.out HND.out hl)).mono ?_; rintro e W5 ⟨rfl, ho5, hg5⟩; have c5 := boxc_cell (blk_grown hv2 hg5 hne) 0)
  have hD5 : W5.heap[D]? = some (.deferred (some [])) := blk_grown HK.out hg5 (fun e => by
   obtain ⟨_, cs, t, fr, h, _⟩ := hrow D e.symm
   have := HK.out
   rw [h] at this
   cases this)
  have hls : (sortP (xs.filter is)).length = (xs.filter is).length := (sortP_perm _).length_eq
  refine leaves_marks w.heap.size (fun W => W.ownsRow w.heap.size 37 4 v (sortP (xs.filter is)).length ((sortP (xs.filter is)).flatMap encR) ∧ RowKit.Below w.heap.size w W) ?_ ?_ [D] W5 ⟨by simp, fun D' h => by rw [List.mem_singleton.1 h]; exact ⟨by omega, hD5⟩⟩ ⟨by rw [hls]; exact ho5, HIx.out.b.grown hg5 HIx.out.b.size (fun r e => (hrow r e).1)⟩
  ·rintro X Y r ⟨h1, h2⟩ hg hr ⟨o, ho, hoc⟩
   refine ⟨h1.kept hg ?_, h2.grown hg h2.size (fun k e => by cases e; exact hr)⟩
   cases hvb : v.ownBlock with
   | none => exact .inl rfl
   | some b =>
    refine .inr (fun e => ?_)
    obtain ⟨_, cs, t, fr, hc, _⟩ := own_row h1 b hvb
    cases e
    rw [hc] at ho
    cases ho
    cases hoc
  ·rintro X ⟨h1, h2⟩
   exact ⟨v, by simp [results, Tryz.results48, go_sem], v, rfl, R_flat h1, h2⟩
 case stop =>
  rintro D cc pre V hD hpre h hK
  exact h.elim
end
end Go.Proofs.YtoimgijhekahhaaGreat.P

-- Laid by a program of this session: the walk of functions of the translation, for this claim.
import Derived.Test.YtoimgijhekahhaaGreatPx0
namespace Go.Proofs.YtoimgijhekahhaaGreat.P
open Go.RowKit Go.Proofs.YtoimgijhekahhaaGreatOwn Go.Proofs.YtoimgijhekahhaaGreatW.PrintWords Go.Proofs.YtoimgijhekahhaaGreatW.PrintLast Go.Proofs.YtoimgijhekahhaaGreatW.PrintMore
attribute [local go_sem] max2_int min2_int max_two min_two max_three min_three max_four min_four
set_option linter.unusedVariables false
set_option linter.unusedSimpArgs false
def sphragisref08_Square.f (a0 : Int) (a1 : Int) (a2 : Int) (a3 : Int) : Option (Int) := some (IntKind.u64.wrap ((IntKind.u64.wrap ((((mx a0 a2) - (mn a0 a2)) % 4294967296) * (((mx a0 a2) - (mn a0 a2)) % 4294967296))) + (IntKind.u64.wrap ((((mx a1 a3) - (mn a1 a3)) % 4294967296) * (((mx a1 a3) - (mn a1 a3)) % 4294967296)))))
set_option maxHeartbeats 8000000 in
set_option maxRecDepth 100000 in
theorem sphragisref08_Square.calls (a0 : Int) (a1 : Int) (a2 : Int) (a3 : Int) (r : Int) (w : World) (h : sphragisref08_Square.f a0 a1 a2 a3 = some r) :
  Calls Tryz.prog 44 #[.int .u32 a0, .int .u32 a1, .int .u32 a2, .int .u32 a3] w fun e w' => e = .returned (.int .u64 r) ∧ Below w.heap.size w w' := by
 have HB := Aside0.mk (Below.refl w.heap.size w)
 have H : (some (IntKind.u64.wrap ((IntKind.u64.wrap ((((mx a0 a2) - (mn a0 a2)) % 4294967296) * (((mx a0 a2) - (mn a0 a2)) % 4294967296))) + (IntKind.u64.wrap ((((mx a1 a3) - (mn a1 a3)) % 4294967296) * (((mx a1 a3) - (mn a1 a3)) % 4294967296)))))) = some r := h
 clear h
 obtain ⟨ji5, hji5⟩ : ∃ j_ : Int, (mx a0 a2) = j_ := ⟨_, rfl⟩
 replace H : (some (IntKind.u64.wrap ((IntKind.u64.wrap ((((ji5) - (mn a0 a2)) % 4294967296) * (((ji5) - (mn a0 a2)) % 4294967296))) + (IntKind.u64.wrap ((((mx a1 a3) - (mn a1 a3)) % 4294967296) * (((mx a1 a3) - (mn a1 a3)) % 4294967296)))))) = some r := by first | (rw [hji5] at H; exact H) | (simp only [hji5] at H ⊢; exact H)
 have hji5_ : (if a0 < a2 then a2 else a0) = ji5 := hji5
 obtain ⟨ji6, hji6⟩ : ∃ j_ : Int, (mn a0 a2) = j_ := ⟨_, rfl⟩
 replace H : (some (IntKind.u64.wrap ((IntKind.u64.wrap ((((ji5) - (ji6)) % 4294967296) * (((ji5) - (ji6)) % 4294967296))) + (IntKind.u64.wrap ((((mx a1 a3) - (mn a1 a3)) % 4294967296) * (((mx a1 a3) - (mn a1 a3)) % 4294967296)))))) = some r := by first | (rw [hji6] at H; exact H) | (simp only [hji6] at H ⊢; exact H)
 have hji6_ : (if a2 < a0 then a2 else a0) = ji6 := hji6
 obtain ⟨ji7, hji7⟩ : ∃ j_ : Int, (mx a1 a3) = j_ := ⟨_, rfl⟩
 replace H : (some (IntKind.u64.wrap ((IntKind.u64.wrap ((((ji5) - (ji6)) % 4294967296) * (((ji5) - (ji6)) % 4294967296))) + (IntKind.u64.wrap ((((ji7) - (mn a1 a3)) % 4294967296) * (((ji7) - (mn a1 a3)) % 4294967296)))))) = some r := by first | (rw [hji7] at H; exact H) | (simp only [hji7] at H ⊢; exact H)
 have hji7_ : (if a1 < a3 then a3 else a1) = ji7 := hji7
 obtain ⟨ji8, hji8⟩ : ∃ j_ : Int, (mn a1 a3) = j_ := ⟨_, rfl⟩
 replace H : (some (IntKind.u64.wrap ((IntKind.u64.wrap ((((ji5) - (ji6)) % 4294967296) * (((ji5) - (ji6)) % 4294967296))) + (IntKind.u64.wrap ((((ji7) - (ji8)) % 4294967296) * (((ji7) - (ji8)) % 4294967296)))))) = some r := by first | (rw [hji8] at H; exact H) | (simp only [hji8] at H ⊢; exact H)
 have hji8_ : (if a3 < a1 then a3 else a1) = ji8 := hji8
 obtain rfl := Option.some.inj H
 go_enter Tryz.func44, Tryz.ntmps44
 go_wp2
 go_ret
 exact ⟨by first | rfl | (simp [errW_none, errW_some] <;> rfl) | (simp only [← hji5, ← hji6, ← hji7, ← hji8]; first | rfl | (simp [errW_none, errW_some] <;> rfl)) | (simp [*, errW_none, errW_some] <;> rfl), by repeat (first | (with_reducible first | exact HB.out | apply below_alloc | apply pw_below_drewN | apply below_drew1) | exact HB.out)⟩
end Go.Proofs.YtoimgijhekahhaaGreat.P

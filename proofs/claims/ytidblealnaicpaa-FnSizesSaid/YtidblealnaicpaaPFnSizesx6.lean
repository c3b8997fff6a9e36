-- written by myprint.py (a program of this session's over the kit's print)
import Derived.Test.YtidblealnaicpaaPFnSizesx0
namespace Go.Proofs.Ytidblealnaicpaa.PFnSizes
open Go.RowKit Go.Proofs.YtidblealnaicpaaW.PrintWords Go.Proofs.YtidblealnaicpaaW.PrintLast Go.Proofs.YtidblealnaicpaaW.PrintMore
attribute [local go_sem] max2_int min2_int max_two min_two max_three min_three max_four min_four   -- for this text's walks alone
set_option linter.unusedVariables false
set_option linter.unusedSimpArgs false

/-! ### impl_place: function 134 -/
def impl_place.f (a0 : Int) (a1 : Int) (a2 : Int) : Option (Int × Int × Int) := if (wrap64 (2 * a2)) = 0 then (none) else (some (mn ((mx 0 (wrap64 ((wrap64 (Int.tdiv (wrap64 ((wrap64 ((wrap64 ((wrap64 (2 * a0)) + 1)) * a1)) * 256)) (wrap64 (2 * a2)))) - 128))) / 256) (wrap64 (a1 - 1)), mn (wrap64 ((mn ((mx 0 (wrap64 ((wrap64 (Int.tdiv (wrap64 ((wrap64 ((wrap64 ((wrap64 (2 * a0)) + 1)) * a1)) * 256)) (wrap64 (2 * a2)))) - 128))) / 256) (wrap64 (a1 - 1))) + 1)) (wrap64 (a1 - 1)), Go.bits .and .i64 (mx 0 (wrap64 ((wrap64 (Int.tdiv (wrap64 ((wrap64 ((wrap64 ((wrap64 (2 * a0)) + 1)) * a1)) * 256)) (wrap64 (2 * a2)))) - 128))) 255))
set_option maxHeartbeats 8000000 in
set_option maxRecDepth 100000 in
theorem impl_place.calls (a0 : Int) (a1 : Int) (a2 : Int) (r1 : Int) (r2 : Int) (r3 : Int) (w : World) (h : impl_place.f a0 a1 a2 = some (r1, r2, r3)) :
  Calls Try.prog 134 #[.int .i64 a0, .int .i64 a1, .int .i64 a2] w fun e w' => e = .returned (.tuple #[.int .i64 r1, .int .i64 r2, .int .i64 r3]) ∧ Below w.heap.size w w' := by
 have HB := Zam (Below.refl w.heap.size w)
 have H : (if (wrap64 (2 * a2)) = 0 then (none) else (some (mn ((mx 0 (wrap64 ((wrap64 (Int.tdiv (wrap64 ((wrap64 ((wrap64 ((wrap64 (2 * a0)) + 1)) * a1)) * 256)) (wrap64 (2 * a2)))) - 128))) / 256) (wrap64 (a1 - 1)), mn (wrap64 ((mn ((mx 0 (wrap64 ((wrap64 (Int.tdiv (wrap64 ((wrap64 ((wrap64 ((wrap64 (2 * a0)) + 1)) * a1)) * 256)) (wrap64 (2 * a2)))) - 128))) / 256) (wrap64 (a1 - 1))) + 1)) (wrap64 (a1 - 1)), Go.bits .and .i64 (mx 0 (wrap64 ((wrap64 (Int.tdiv (wrap64 ((wrap64 ((wrap64 ((wrap64 (2 * a0)) + 1)) * a1)) * 256)) (wrap64 (2 * a2)))) - 128))) 255))) = some (r1, r2, r3) := h
 clear h
 by_cases c4 : (wrap64 (2 * a2)) = 0
 ·rw [if_pos c4] at H
  exact absurd H (by simp)
 rw [if_neg c4] at H
 have c4b0 : ((wrap64 (2 * a2)) == 0) = false := beq_eq_false_iff_ne.mpr c4
 have c4b1 : ((wrap64 (2 * a2)) != 0) = true := bne_iff_ne.mpr c4
 obtain ⟨ji5, hji5⟩ : ∃ j_ : Int, (mx 0 (wrap64 ((wrap64 (Int.tdiv (wrap64 ((wrap64 ((wrap64 ((wrap64 (2 * a0)) + 1)) * a1)) * 256)) (wrap64 (2 * a2)))) - 128))) = j_ := ⟨_, rfl⟩
 replace H : (some (mn ((ji5) / 256) (wrap64 (a1 - 1)), mn (wrap64 ((mn ((ji5) / 256) (wrap64 (a1 - 1))) + 1)) (wrap64 (a1 - 1)), Go.bits .and .i64 (ji5) 255)) = some (r1, r2, r3) := by first | (rw [hji5] at H; exact H) | (simp only [hji5] at H ⊢; exact H)
 (try (have hji5l : 0 ≤ ji5 := by (rw [← hji5]; unfold mx; (repeat' split) <;> omega)))
 (try (have hji5m : 0 ≤ ji5 := by omega))
 have hji5_ : (if 0 < (wrap64 ((wrap64 (Int.tdiv (wrap64 ((wrap64 ((wrap64 ((wrap64 (2 * a0)) + 1)) * a1)) * 256)) (wrap64 (2 * a2)))) - 128)) then (wrap64 ((wrap64 (Int.tdiv (wrap64 ((wrap64 ((wrap64 ((wrap64 (2 * a0)) + 1)) * a1)) * 256)) (wrap64 (2 * a2)))) - 128)) else 0) = ji5 := hji5
 obtain ⟨ji6, hji6⟩ : ∃ j_ : Int, (mn ((ji5) / 256) (wrap64 (a1 - 1))) = j_ := ⟨_, rfl⟩
 replace H : (some (ji6, mn (wrap64 ((ji6) + 1)) (wrap64 (a1 - 1)), Go.bits .and .i64 (ji5) 255)) = some (r1, r2, r3) := by first | (rw [hji6] at H; exact H) | (simp only [hji6] at H ⊢; exact H)
 have hji6_ : (if (wrap64 (a1 - 1)) < ((ji5) / 256) then (wrap64 (a1 - 1)) else ((ji5) / 256)) = ji6 := hji6
 obtain ⟨ji7, hji7⟩ : ∃ j_ : Int, (mn (wrap64 ((ji6) + 1)) (wrap64 (a1 - 1))) = j_ := ⟨_, rfl⟩
 replace H : (some (ji6, ji7, Go.bits .and .i64 (ji5) 255)) = some (r1, r2, r3) := by first | (rw [hji7] at H; exact H) | (simp only [hji7] at H ⊢; exact H)
 have hji7_ : (if (wrap64 (a1 - 1)) < (wrap64 ((ji6) + 1)) then (wrap64 (a1 - 1)) else (wrap64 ((ji6) + 1))) = ji7 := hji7
 simp only [Option.some.injEq, Prod.mk.injEq] at H
 obtain ⟨rfl, rfl, rfl⟩ := H
 go_enter Try.func134, Try.ntmps134
 go_wp2
 go_ret3
 exact ⟨by first | rfl | (simp [errW_none, errW_some] <;> rfl) | (simp only [← hji5, ← hji6, ← hji7]; first | rfl | (simp [errW_none, errW_some] <;> rfl)) | (simp [*, errW_none, errW_some] <;> rfl), by repeat (first | (with_reducible first | exact HB.out | apply ZhA | apply ZhW | apply ZhD) | exact HB.out)⟩

end Go.Proofs.Ytidblealnaicpaa.PFnSizes

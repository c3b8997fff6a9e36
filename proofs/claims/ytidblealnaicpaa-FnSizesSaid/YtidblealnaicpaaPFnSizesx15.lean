-- written by myprint.py (a program of this session's over the kit's print)
import Derived.Test.YtidblealnaicpaaPFnSizesx0
import Derived.Test.YtidblealnaicpaaPFnSizesx3
import Derived.Test.YtidblealnaicpaaPFnSizesx4
import Derived.Test.YtidblealnaicpaaPFnSizesx5
import Derived.Test.YtidblealnaicpaaPFnSizesx7
import Derived.Test.YtidblealnaicpaaPFnSizesx8
import Derived.Test.YtidblealnaicpaaPFnSizesx9
import Derived.Test.YtidblealnaicpaaPFnSizesx11
import Derived.Test.YtidblealnaicpaaPFnSizesx12
import Derived.Test.YtidblealnaicpaaPFnSizesx13
import Derived.Test.YtidblealnaicpaaPFnSizesx14
namespace Go.Proofs.Ytidblealnaicpaa.PFnSizes
open Go.RowKit Go.Proofs.YtidblealnaicpaaW.PrintWords Go.Proofs.YtidblealnaicpaaW.PrintLast Go.Proofs.YtidblealnaicpaaW.PrintMore
attribute [local go_sem] max2_int min2_int max_two min_two max_three min_three max_four min_four   -- for this text's walks alone
set_option linter.unusedVariables false
set_option linter.unusedSimpArgs false

/-! ### laws_FnSizes: function 10 -/
mutual
def laws_FnSizes.l0 : Nat → Int → Int → List (S82) → List (S82) → Int → Int → Int → Int → List Int → Option (Bool)
 | 0, _, _, _, _, _, _, _, _, _ => none
 | k + 1, x6, x7, x9, x80, x81, x82, x353000, x353001, x353002 => if x82 < x81 then (if 0 ≤ x82 then (if x82 < (x80.length : Int) then (if x82 < (x9.length : Int) then (if ((rd_T82 x80 x82).f0) = ((rd_T82 x9 x82).f0) then (if ((rd_T82 x80 x82).f1) = ((rd_T82 x9 x82).f1) then ((laws_wInts.f k ((rd_T82 x80 x82).f2) ((rd_T82 x9 x82).f2)).bind fun t407 => (if t407 = true then (laws_FnSizes.l1 k x6 x7 x9 x80 x81 x82 ((rd_T82 x80 x82).f2) (((rd_T82 x80 x82).f2).length : Int) 0 x353000 x353001 x353002) else (some false))) else (some false)) else (some false)) else (none)) else (none)) else (none)) else ((impl_Resize.f k x353000 x353001 x353002 x353000 x353001).bind fun bt409 => ((laws_wInts.f k bt409.2.2 x353002).bind fun t414 => (some t414)))
def laws_FnSizes.l1 : Nat → Int → Int → List (S82) → List (S82) → Int → Int → List Int → Int → Int → Int → Int → List Int → Option (Bool)
 | 0, _, _, _, _, _, _, _, _, _, _, _, _ => none
 | k + 1, x6, x7, x9, x80, x81, x82, x117, x118, x119, x353000, x353001, x353002 => if x119 < x118 then (if 0 ≤ x119 then (if x119 < (x117.length : Int) then (if (rd x117 x119) < x6 then (some false) else (if (rd x117 x119) > x7 then (some false) else (laws_FnSizes.l1 k x6 x7 x9 x80 x81 x82 x117 x118 (wrap64 (x119 + 1)) x353000 x353001 x353002))) else (none)) else (none)) else (laws_FnSizes.l0 k x6 x7 x9 x80 x81 (wrap64 (x82 + 1)) x353000 x353001 x353002)
end
def laws_FnSizes.f (k : Nat) (l0 : List Int) : Option (Bool) := if (l0.length : Int) > 1048576 then (some true) else ((spec_DrawResize.f k l0).bind fun bt345 => ((spec_GoodPlane.f k bt345.1 bt345.2.1 bt345.2.2.1).bind fun t353 => (if t353 = true then ((spec_Ends.f k bt345.2.2.1).bind fun bt354 => ((impl_Shrink.f k bt345.1 bt345.2.1 bt345.2.2.1 2).bind fun bt356 => ((impl_Shrink.f k bt345.1 bt345.2.1 bt345.2.2.1 4).bind fun bt361 => ((impl_Resize.f k bt345.1 bt345.2.1 bt345.2.2.1 bt345.2.2.2.1 bt345.2.2.2.2).bind fun bt366 => ((impl_Grow.f k bt345.1 bt345.2.1 bt345.2.2.1 (wrap64 ((wrap64 (2 * bt345.1)) - 1)) (wrap64 (2 * bt345.2.1))).bind fun bt371 => ((some (([(⟨bt356.1, bt356.2.1, bt356.2.2⟩ : S82), (⟨bt361.1, bt361.2.1, bt361.2.2⟩ : S82), (⟨bt366.1, bt366.2.1, bt366.2.2⟩ : S82), (⟨bt371.1, bt371.2.1, bt371.2.2⟩ : S82)] : List (S82)) : List (S82))).bind fun y376 => ((spec_Shrink.f k bt345.1 bt345.2.1 bt345.2.2.1 2).bind fun bt379 => ((spec_Shrink.f k bt345.1 bt345.2.1 bt345.2.2.1 4).bind fun bt384 => ((spec_Resize.f k bt345.1 bt345.2.1 bt345.2.2.1 bt345.2.2.2.1 bt345.2.2.2.2).bind fun bt389 => ((spec_Grow.f k bt345.1 bt345.2.1 bt345.2.2.1 (wrap64 ((wrap64 (2 * bt345.1)) - 1)) (wrap64 (2 * bt345.2.1))).bind fun bt394 => (laws_FnSizes.l0 k bt354.1 bt354.2 (([(⟨bt379.1, bt379.2.1, bt379.2.2⟩ : S82), (⟨bt384.1, bt384.2.1, bt384.2.2⟩ : S82), (⟨bt389.1, bt389.2.1, bt389.2.2⟩ : S82), (⟨bt394.1, bt394.2.1, bt394.2.2⟩ : S82)] : List (S82))) y376 (y376.length : Int) 0 bt345.1 bt345.2.1 bt345.2.2.1))))))))))) else ((impl_Shrink.f k bt345.1 bt345.2.1 bt345.2.2.1 2).bind fun bt415 => (if bt415.1 = 0 then ((impl_Resize.f k bt345.1 bt345.2.1 bt345.2.2.1 bt345.2.2.2.1 bt345.2.2.2.2).bind fun bt420 => (some (bt420.1 == 0))) else (some false))))))
theorem laws_FnSizes.mono_l : ∀ k, (∀ y0 y1 y2 y3 y4 y5 y6 y7 y8, LeO (laws_FnSizes.l0 k y0 y1 y2 y3 y4 y5 y6 y7 y8) (laws_FnSizes.l0 (k + 1) y0 y1 y2 y3 y4 y5 y6 y7 y8)) ∧ (∀ y0 y1 y2 y3 y4 y5 y6 y7 y8 y9 y10 y11, LeO (laws_FnSizes.l1 k y0 y1 y2 y3 y4 y5 y6 y7 y8 y9 y10 y11) (laws_FnSizes.l1 (k + 1) y0 y1 y2 y3 y4 y5 y6 y7 y8 y9 y10 y11))
 | 0 => ⟨fun _ _ _ _ _ _ _ _ _ r h => by simp [laws_FnSizes.l0] at h, fun _ _ _ _ _ _ _ _ _ _ _ _ r h => by simp [laws_FnSizes.l1] at h⟩
 | k + 1 => by
  obtain ⟨ih0, ih1⟩ := laws_FnSizes.mono_l k
  refine ⟨?_, ?_⟩
  ·intro y0 y1 y2 y3 y4 y5 y6 y7 y8
   unfold laws_FnSizes.l0
   repeat' first
   | (with_reducible exact ih0 _ _ _ _ _ _ _ _ _)
   | (with_reducible exact ih1 _ _ _ _ _ _ _ _ _ _ _ _)
   | (with_reducible exact impl_Grow.mono _ _ _ _ _ _)
   | (with_reducible exact impl_Resize.mono _ _ _ _ _ _)
   | (with_reducible exact impl_Shrink.mono _ _ _ _ _)
   | (with_reducible exact laws_wInts.mono _ _ _)
   | (with_reducible exact spec_DrawResize.mono _ _)
   | (with_reducible exact spec_Ends.mono _ _)
   | (with_reducible exact spec_GoodPlane.mono _ _ _ _)
   | (with_reducible exact spec_Grow.mono _ _ _ _ _ _)
   | (with_reducible exact spec_Resize.mono _ _ _ _ _ _)
   | (with_reducible exact spec_Shrink.mono _ _ _ _ _)
   | (with_reducible exact LeO.refl _)
   | (with_reducible exact LeO.none _)
   | (with_reducible refine LeO.ite ?_ ?_)
   | (with_reducible refine LeO.bind ?_ (fun _ => ?_))
   | exact ih0 _ _ _ _ _ _ _ _ _
   | exact ih1 _ _ _ _ _ _ _ _ _ _ _ _
   | exact impl_Grow.mono _ _ _ _ _ _
   | exact impl_Resize.mono _ _ _ _ _ _
   | exact impl_Shrink.mono _ _ _ _ _
   | exact laws_wInts.mono _ _ _
   | exact spec_DrawResize.mono _ _
   | exact spec_Ends.mono _ _
   | exact spec_GoodPlane.mono _ _ _ _
   | exact spec_Grow.mono _ _ _ _ _ _
   | exact spec_Resize.mono _ _ _ _ _ _
   | exact spec_Shrink.mono _ _ _ _ _
   | exact LeO.none _
   | refine LeO.ite ?_ ?_
   | refine LeO.bind ?_ (fun _ => ?_)
  ·intro y0 y1 y2 y3 y4 y5 y6 y7 y8 y9 y10 y11
   unfold laws_FnSizes.l1
   repeat' first
   | (with_reducible exact ih0 _ _ _ _ _ _ _ _ _)
   | (with_reducible exact ih1 _ _ _ _ _ _ _ _ _ _ _ _)
   | (with_reducible exact impl_Grow.mono _ _ _ _ _ _)
   | (with_reducible exact impl_Resize.mono _ _ _ _ _ _)
   | (with_reducible exact impl_Shrink.mono _ _ _ _ _)
   | (with_reducible exact laws_wInts.mono _ _ _)
   | (with_reducible exact spec_DrawResize.mono _ _)
   | (with_reducible exact spec_Ends.mono _ _)
   | (with_reducible exact spec_GoodPlane.mono _ _ _ _)
   | (with_reducible exact spec_Grow.mono _ _ _ _ _ _)
   | (with_reducible exact spec_Resize.mono _ _ _ _ _ _)
   | (with_reducible exact spec_Shrink.mono _ _ _ _ _)
   | (with_reducible exact LeO.refl _)
   | (with_reducible exact LeO.none _)
   | (with_reducible refine LeO.ite ?_ ?_)
   | (with_reducible refine LeO.bind ?_ (fun _ => ?_))
   | exact ih0 _ _ _ _ _ _ _ _ _
   | exact ih1 _ _ _ _ _ _ _ _ _ _ _ _
   | exact impl_Grow.mono _ _ _ _ _ _
   | exact impl_Resize.mono _ _ _ _ _ _
   | exact impl_Shrink.mono _ _ _ _ _
   | exact laws_wInts.mono _ _ _
   | exact spec_DrawResize.mono _ _
   | exact spec_Ends.mono _ _
   | exact spec_GoodPlane.mono _ _ _ _
   | exact spec_Grow.mono _ _ _ _ _ _
   | exact spec_Resize.mono _ _ _ _ _ _
   | exact spec_Shrink.mono _ _ _ _ _
   | exact LeO.none _
   | refine LeO.ite ?_ ?_
   | refine LeO.bind ?_ (fun _ => ?_)
theorem laws_FnSizes.mono : ∀ a0 k, LeO (laws_FnSizes.f k a0) (laws_FnSizes.f (k + 1) a0) := by
 intro a0 k
 obtain ⟨ih0, ih1⟩ := laws_FnSizes.mono_l k
 unfold laws_FnSizes.f
 repeat' first
   | (with_reducible exact ih0 _ _ _ _ _ _ _ _ _)
   | (with_reducible exact ih1 _ _ _ _ _ _ _ _ _ _ _ _)
   | (with_reducible exact impl_Grow.mono _ _ _ _ _ _)
   | (with_reducible exact impl_Resize.mono _ _ _ _ _ _)
   | (with_reducible exact impl_Shrink.mono _ _ _ _ _)
   | (with_reducible exact laws_wInts.mono _ _ _)
   | (with_reducible exact spec_DrawResize.mono _ _)
   | (with_reducible exact spec_Ends.mono _ _)
   | (with_reducible exact spec_GoodPlane.mono _ _ _ _)
   | (with_reducible exact spec_Grow.mono _ _ _ _ _ _)
   | (with_reducible exact spec_Resize.mono _ _ _ _ _ _)
   | (with_reducible exact spec_Shrink.mono _ _ _ _ _)
   | (with_reducible exact LeO.refl _)
   | (with_reducible exact LeO.none _)
   | (with_reducible refine LeO.ite ?_ ?_)
   | (with_reducible refine LeO.bind ?_ (fun _ => ?_))
   | exact ih0 _ _ _ _ _ _ _ _ _
   | exact ih1 _ _ _ _ _ _ _ _ _ _ _ _
   | exact impl_Grow.mono _ _ _ _ _ _
   | exact impl_Resize.mono _ _ _ _ _ _
   | exact impl_Shrink.mono _ _ _ _ _
   | exact laws_wInts.mono _ _ _
   | exact spec_DrawResize.mono _ _
   | exact spec_Ends.mono _ _
   | exact spec_GoodPlane.mono _ _ _ _
   | exact spec_Grow.mono _ _ _ _ _ _
   | exact spec_Resize.mono _ _ _ _ _ _
   | exact spec_Shrink.mono _ _ _ _ _
   | exact LeO.none _
   | refine LeO.ite ?_ ?_
   | refine LeO.bind ?_ (fun _ => ?_)
def laws_FnSizes.T7 : Bool × List (List Nat × List Nat) := (true, [([], []), ([0], [0]), ([], []), ([2, 1], [2]), ([], []), ([], []), ([], []), ([4, 5, 6, 3], [4, 5, 6]), ([], []), ([], []), ([9], [9]), ([10], [10]), ([11], [11]), ([], []), ([13], [13]), ([14], [14]), ([8, 12, 15, 7], [8, 12, 15]), ([1, 3, 7, 16], [1, 3, 7, 16]), ([17, 16, 0, 1, 2, 3, 4, 5, 6, 7, 8, 9, 10, 11, 12, 13, 14, 15, 16, 17], [17])])
def laws_FnSizes.B7 : List Nat := [0, 1, 0, 7, 0, 0, 0, 127, 0, 0, 512, 1536, 3584, 0, 8192, 24576, 65535, 131071, 262143]
theorem laws_FnSizes.tab7 : rtab .any (opsOf Try.f10 7) = laws_FnSizes.T7 := by kernel_rfl
theorem laws_FnSizes.bits7 : waitsOk laws_FnSizes.T7.2 laws_FnSizes.B7 = true := by kernel_rfl
def laws_FnSizes.T8 : Bool × List (List Nat × List Nat) := (true, [([], []), ([0], [0]), ([], []), ([2, 1], [2]), ([], []), ([], []), ([], []), ([4, 5, 6, 3], [4, 5, 6]), ([], []), ([], []), ([9], [9]), ([10], [10]), ([11], [11]), ([], []), ([13], [13]), ([14], [14]), ([8, 12, 15, 7], [8, 12, 15]), ([1, 3, 7, 16], [1, 3, 7, 16]), ([17, 16, 0, 1, 2, 3, 4, 5, 6, 7, 8, 9, 10, 11, 12, 13, 14, 15, 16, 17], [17])])
def laws_FnSizes.B8 : List Nat := [0, 1, 0, 7, 0, 0, 0, 127, 0, 0, 512, 1536, 3584, 0, 8192, 24576, 65535, 131071, 262143]
theorem laws_FnSizes.tab8 : rtab .any (opsOf Try.f10 8) = laws_FnSizes.T8 := by kernel_rfl
theorem laws_FnSizes.bits8 : waitsOk laws_FnSizes.T8.2 laws_FnSizes.B8 = true := by kernel_rfl
def laws_FnSizes.T12 : Bool × List (List Nat × List Nat) := (true, [([], []), ([0], [0]), ([], []), ([], []), ([2, 3], [2, 3]), ([4], [4]), ([5], [5]), ([1, 6], [1, 6]), ([7], [7]), ([8], [8]), ([9, 8], [8, 9]), ([8], [8]), ([8], [8]), ([11, 12, 8], [8, 11, 12]), ([13, 8], [8, 13]), ([14, 8], [8, 14]), ([10, 15, 8], [8, 10, 15]), ([8, 16], [8, 16]), ([17, 8], [17]), ([18], [18]), ([19, 18], [18, 19]), ([18], [18]), ([18], [18]), ([21, 22, 18], [18, 21, 22]), ([23, 18], [18, 23]), ([24, 18], [18, 24]), ([20, 25, 18, 18], [18, 20, 25]), ([26, 18], [18, 26]), ([18, 27], [18, 27])])
def laws_FnSizes.B12 : List Nat := [0, 1, 0, 0, 12, 28, 60, 127, 255, 511, 1023, 511, 511, 6655, 14847, 31231, 65535, 131071, 262143, 524287, 1048575, 524287, 524287, 6815743, 15204351, 31981567, 67108863, 134217727, 268435455]
theorem laws_FnSizes.tab12 : rtab .any (opsOf Try.f10 12) = laws_FnSizes.T12 := by kernel_rfl
theorem laws_FnSizes.bits12 : waitsOk laws_FnSizes.T12.2 laws_FnSizes.B12 = true := by kernel_rfl
def laws_FnSizes.T21 : Bool × List (List Nat × List Nat) := (true, [([], []), ([], []), ([1], [1]), ([], []), ([3], [3]), ([0, 2, 4], [0, 2, 4]), ([5], [5]), ([], []), ([7], [7]), ([6, 8, 5], [6, 8]), ([9, 9, 0, 1, 2, 3, 4, 5, 6, 7, 8, 9], [9])])
def laws_FnSizes.B21 : List Nat := [0, 0, 2, 0, 8, 31, 63, 0, 128, 511, 1023]
theorem laws_FnSizes.tab21 : rtab .any (opsOf Try.f10 21) = laws_FnSizes.T21 := by kernel_rfl
theorem laws_FnSizes.bits21 : waitsOk laws_FnSizes.T21.2 laws_FnSizes.B21 = true := by kernel_rfl
set_option maxHeartbeats 8000000 in
set_option maxRecDepth 100000 in
theorem laws_FnSizes.calls (k : Nat) (A0 : Option Addr) (c0 : Nat) (l0 : List Int) (r : Bool) (w : World) (hr0 : Kd.C (Kd.int .u8) w A0 l0.length l0) (hc0 : l0.length ≤ c0) (h : laws_FnSizes.f k l0 = some r) (hr_ : r = true) :
  Calls Try.prog 10 #[.slice A0 l0.length c0] w fun e w' => e = .returned (.bool r) ∧ Below w.heap.size w w' := by
 have hu82 := Try.underlying82
 have hfld82_0 : ∀ (c0 c1 c2 : Value) (w_ : World), (Instr.field 82 (.agg #[c0, c1, c2]) 0).run Try.prog w_ = .ok (c0) w_ := fun _ _ _ _ => by kernel_rfl
 have hfld82_2 : ∀ (c0 c1 c2 : Value) (w_ : World), (Instr.field 82 (.agg #[c0, c1, c2]) 2).run Try.prog w_ = .ok (c2) w_ := fun _ _ _ _ => by kernel_rfl
 have HR0 := Zam hr0
 have HC0 := Zam hc0
 clear hr0 hc0
 have HB := Zam (Below.refl w.heap.size w)
 have H : (if (l0.length : Int) > 1048576 then (some true) else ((spec_DrawResize.f k l0).bind fun bt345 => ((spec_GoodPlane.f k bt345.1 bt345.2.1 bt345.2.2.1).bind fun t353 => (if t353 = true then ((spec_Ends.f k bt345.2.2.1).bind fun bt354 => ((impl_Shrink.f k bt345.1 bt345.2.1 bt345.2.2.1 2).bind fun bt356 => ((impl_Shrink.f k bt345.1 bt345.2.1 bt345.2.2.1 4).bind fun bt361 => ((impl_Resize.f k bt345.1 bt345.2.1 bt345.2.2.1 bt345.2.2.2.1 bt345.2.2.2.2).bind fun bt366 => ((impl_Grow.f k bt345.1 bt345.2.1 bt345.2.2.1 (wrap64 ((wrap64 (2 * bt345.1)) - 1)) (wrap64 (2 * bt345.2.1))).bind fun bt371 => ((some (([(⟨bt356.1, bt356.2.1, bt356.2.2⟩ : S82), (⟨bt361.1, bt361.2.1, bt361.2.2⟩ : S82), (⟨bt366.1, bt366.2.1, bt366.2.2⟩ : S82), (⟨bt371.1, bt371.2.1, bt371.2.2⟩ : S82)] : List (S82)) : List (S82))).bind fun y376 => ((spec_Shrink.f k bt345.1 bt345.2.1 bt345.2.2.1 2).bind fun bt379 => ((spec_Shrink.f k bt345.1 bt345.2.1 bt345.2.2.1 4).bind fun bt384 => ((spec_Resize.f k bt345.1 bt345.2.1 bt345.2.2.1 bt345.2.2.2.1 bt345.2.2.2.2).bind fun bt389 => ((spec_Grow.f k bt345.1 bt345.2.1 bt345.2.2.1 (wrap64 ((wrap64 (2 * bt345.1)) - 1)) (wrap64 (2 * bt345.2.1))).bind fun bt394 => (laws_FnSizes.l0 k bt354.1 bt354.2 (([(⟨bt379.1, bt379.2.1, bt379.2.2⟩ : S82), (⟨bt384.1, bt384.2.1, bt384.2.2⟩ : S82), (⟨bt389.1, bt389.2.1, bt389.2.2⟩ : S82), (⟨bt394.1, bt394.2.1, bt394.2.2⟩ : S82)] : List (S82))) y376 (y376.length : Int) 0 bt345.1 bt345.2.1 bt345.2.2.1))))))))))) else ((impl_Shrink.f k bt345.1 bt345.2.1 bt345.2.2.1 2).bind fun bt415 => (if bt415.1 = 0 then ((impl_Resize.f k bt345.1 bt345.2.1 bt345.2.2.1 bt345.2.2.2.1 bt345.2.2.2.2).bind fun bt420 => (some (bt420.1 == 0))) else (some false))))))) = some r := h
 clear h
 by_cases c2 : (l0.length : Int) > 1048576
 ·rw [if_pos c2] at H
  have c2b0 : decide (1048576 < (l0.length : Int)) = true := decide_eq_true c2
  have c2b1 : decide (1048576 < l0.length) = true := decide_eq_true (by omega)
  have c2b2 : 1048576 < l0.length := by omega
  clear c2
  obtain rfl := Option.some.inj H
  go_enter Try.func10, Try.ntmps10
  go_wp2
  go_ret
  exact ⟨by first | rfl | (simp [*, errW_none, errW_some] <;> rfl), by repeat (first | (with_reducible first | exact HB.out | apply ZhA | apply ZhW | apply ZhD) | exact HB.out)⟩
 rw [if_neg c2] at H
 have c2b0 : decide (1048576 < (l0.length : Int)) = false := decide_eq_false c2
 have c2b1 : decide (1048576 < l0.length) = false := decide_eq_false (by omega)
 have c2b2 : ¬ (1048576 < l0.length) := by omega
 clear c2
 replace H := Zob.mp H
 obtain ⟨⟨t345, t346, t347, t350, t351⟩, A30, H⟩ := H
 replace H : ((spec_GoodPlane.f k t345 t346 t347).bind fun t353 => (if t353 = true then ((spec_Ends.f k t347).bind fun bt354 => ((impl_Shrink.f k t345 t346 t347 2).bind fun bt356 => ((impl_Shrink.f k t345 t346 t347 4).bind fun bt361 => ((impl_Resize.f k t345 t346 t347 t350 t351).bind fun bt366 => ((impl_Grow.f k t345 t346 t347 (wrap64 ((wrap64 (2 * t345)) - 1)) (wrap64 (2 * t346))).bind fun bt371 => ((some (([(⟨bt356.1, bt356.2.1, bt356.2.2⟩ : S82), (⟨bt361.1, bt361.2.1, bt361.2.2⟩ : S82), (⟨bt366.1, bt366.2.1, bt366.2.2⟩ : S82), (⟨bt371.1, bt371.2.1, bt371.2.2⟩ : S82)] : List (S82)) : List (S82))).bind fun y376 => ((spec_Shrink.f k t345 t346 t347 2).bind fun bt379 => ((spec_Shrink.f k t345 t346 t347 4).bind fun bt384 => ((spec_Resize.f k t345 t346 t347 t350 t351).bind fun bt389 => ((spec_Grow.f k t345 t346 t347 (wrap64 ((wrap64 (2 * t345)) - 1)) (wrap64 (2 * t346))).bind fun bt394 => (laws_FnSizes.l0 k bt354.1 bt354.2 (([(⟨bt379.1, bt379.2.1, bt379.2.2⟩ : S82), (⟨bt384.1, bt384.2.1, bt384.2.2⟩ : S82), (⟨bt389.1, bt389.2.1, bt389.2.2⟩ : S82), (⟨bt394.1, bt394.2.1, bt394.2.2⟩ : S82)] : List (S82))) y376 (y376.length : Int) 0 t345 t346 t347))))))))))) else ((impl_Shrink.f k t345 t346 t347 2).bind fun bt415 => (if bt415.1 = 0 then ((impl_Resize.f k t345 t346 t347 t350 t351).bind fun bt420 => (some (bt420.1 == 0))) else (some false))))) = some r := H
 have A3 := Zam A30
 clear A30
 replace H := Zob.mp H
 obtain ⟨t353, A40, H⟩ := H
 replace H : (if t353 = true then ((spec_Ends.f k t347).bind fun bt354 => ((impl_Shrink.f k t345 t346 t347 2).bind fun bt356 => ((impl_Shrink.f k t345 t346 t347 4).bind fun bt361 => ((impl_Resize.f k t345 t346 t347 t350 t351).bind fun bt366 => ((impl_Grow.f k t345 t346 t347 (wrap64 ((wrap64 (2 * t345)) - 1)) (wrap64 (2 * t346))).bind fun bt371 => ((some (([(⟨bt356.1, bt356.2.1, bt356.2.2⟩ : S82), (⟨bt361.1, bt361.2.1, bt361.2.2⟩ : S82), (⟨bt366.1, bt366.2.1, bt366.2.2⟩ : S82), (⟨bt371.1, bt371.2.1, bt371.2.2⟩ : S82)] : List (S82)) : List (S82))).bind fun y376 => ((spec_Shrink.f k t345 t346 t347 2).bind fun bt379 => ((spec_Shrink.f k t345 t346 t347 4).bind fun bt384 => ((spec_Resize.f k t345 t346 t347 t350 t351).bind fun bt389 => ((spec_Grow.f k t345 t346 t347 (wrap64 ((wrap64 (2 * t345)) - 1)) (wrap64 (2 * t346))).bind fun bt394 => (laws_FnSizes.l0 k bt354.1 bt354.2 (([(⟨bt379.1, bt379.2.1, bt379.2.2⟩ : S82), (⟨bt384.1, bt384.2.1, bt384.2.2⟩ : S82), (⟨bt389.1, bt389.2.1, bt389.2.2⟩ : S82), (⟨bt394.1, bt394.2.1, bt394.2.2⟩ : S82)] : List (S82))) y376 (y376.length : Int) 0 t345 t346 t347))))))))))) else ((impl_Shrink.f k t345 t346 t347 2).bind fun bt415 => (if bt415.1 = 0 then ((impl_Resize.f k t345 t346 t347 t350 t351).bind fun bt420 => (some (bt420.1 == 0))) else (some false)))) = some r := H
 have A4 := Zam A40
 clear A40
 by_cases c5 : t353 = true
 rotate_left
 ·replace c5 := Bool.eq_false_iff.mpr c5
  subst c5
  replace H : ((impl_Shrink.f k t345 t346 t347 2).bind fun bt415 => (if bt415.1 = 0 then ((impl_Resize.f k t345 t346 t347 t350 t351).bind fun bt420 => (some (bt420.1 == 0))) else (some false))) = some r := by rw [if_neg (show ¬ (false = true) by decide)] at H; exact H
  replace H := Zob.mp H
  obtain ⟨⟨t415, t416, t417⟩, A870, H⟩ := H
  replace H : (if t415 = 0 then ((impl_Resize.f k t345 t346 t347 t350 t351).bind fun bt420 => (some (bt420.1 == 0))) else (some false)) = some r := H
  have A87 := Zam A870
  clear A870
  by_cases c88 : t415 = 0
  rotate_left
  ·rw [if_neg c88] at H
   have c88b0 : (t415 == 0) = false := beq_eq_false_iff_ne.mpr c88
   have c88b1 : (t415 != 0) = true := bne_iff_ne.mpr c88
   exact absurd (H.trans (congrArg some hr_)) (by decide)
  rw [if_pos c88] at H
  have c88b0 : (t415 == 0) = true := beq_iff_eq.mpr c88
  have c88b1 : (t415 != 0) = false := bne_eq_false_iff_eq.mpr c88
  clear c88
  replace H := Zob.mp H
  obtain ⟨⟨t420, t421, t422⟩, A890, H⟩ := H
  replace H : (some (t420 == 0)) = some r := H
  have A89 := Zam A890
  clear A890
  obtain rfl := Option.some.inj H
  go_enter Try.func10, Try.ntmps10
  go_wp2_with (first | ((with_reducible refine gate_callee (f := 57) rfl ?_); refine goesL_ (some 19) rfl rfl Try.func57 (by kernel_rfl) rfl #[.slice A0 l0.length c0] rfl (by (try simp only [Zm1, Zm2, Zm3]); first | done | rfl | (simp only [ZlL, ZlT]; rfl)) ?_; (with_reducible refine (spec_DrawResize.calls k _ _ l0 t345 t346 t347 t350 t351 _ ?side1 ?side2 A3.out).mono ?_); (case side1 => repeat (first | exact HR0.out | (with_reducible refine Kd.C_alloc ?_ _) | (with_reducible refine Kd.C_drewN ?_ _) | (with_reducible refine Kd.C_drew ?_))); (case side2 => exact HC0.out); rintro e w90 ⟨v348, rfl, ho0, hb⟩; refine ⟨_, rfl, ?_⟩; have n0_ := Zam (Kd.R_lower ho0 (below_size (by repeat (first | (with_reducible first | exact HB.out | apply ZhA | apply ZhW | apply ZhD) | exact HB.out)))); have n1_ := Zam (ZbS (by repeat (first | (with_reducible first | exact HB.out | apply ZhA | apply ZhW | apply ZhD) | exact HB.out)) hb); clear HB; have HO349 := n0_; have HB := n1_; clear n0_ n1_; (try clear hb); (try clear hb2); (try clear hk); (try clear hi); (try clear ho0)) | ((with_reducible refine gate_dst (N := 3) rfl ?_); refine box_event ?hg (N := 3) ?hd (cs := #[.int .i64 0, .int .i64 0, .slice none 0 0]) (t := 82) ?hr ?_; (case hd => rfl); (case hg => rfl); (case hr => first | (go_simp; done) | (go_simp; rfl)); intro gb352 hg w91 hbox hb; have n0_ := Zam (Kd.R_below (by (with_reducible repeat (first | apply ZrA | apply ZrW | apply ZrD)); exact HO349.out) hb); have n1_ := Zam (ZbS (by repeat (first | (with_reducible first | exact HB.out | apply ZhA | apply ZhW | apply ZhD) | exact HB.out)) hb); have n2_ := Zam (hbox); have n3_ := Zam ((by rw [hg]; exact (below_size (by repeat (first | (with_reducible first | exact HB.out | apply ZhA | apply ZhW | apply ZhD) | exact HB.out))) : w.heap.size ≤ gb352)); have n4_ := n3_; clear HO349 HB; have HO349 := n0_; have HB := n1_; have BK352 := n2_; have GW352 := n3_; have GE352 := n4_; clear n0_ n1_ n2_ n3_ n4_; clear hb hbox hg; have hcz92_0 : w91.cell? ⟨gb352, 0, none⟩ = some (.int .i64 0) := (ZbC BK352.out 0).trans rfl; have hcz92_1 : w91.cell? ⟨gb352, 1, none⟩ = some (.int .i64 0) := (ZbC BK352.out 1).trans rfl; have hcz92_2 : w91.cell? ⟨gb352, 2, none⟩ = some (.slice none 0 0) := (ZbC BK352.out 2).trans rfl; have hfz92_0 := ZbF BK352.out 0; have hfz92_1 := ZbF BK352.out 1; have hfz92_2 := ZbF BK352.out 2; obtain ⟨Ao93, co93, eo93⟩ := Kd.R_slice HO349.out; subst eo93) | ((with_reducible refine gate_callee (f := 58) rfl ?_); refine goesL_ (some 24) rfl rfl Try.func58 (by kernel_rfl) rfl #[.agg #[.int .i64 t345, .int .i64 t346, .slice Ao93 t347.length co93]] rfl (by (try simp only [Zm1, Zm2, Zm3]); first | done | rfl | (simp only [ZlL, ZlT]; rfl)) ?_; (with_reducible refine (spec_GoodPlane.calls k t345 t346 _ _ t347 false _ ?side1 ?side2 A4.out).mono ?_); (case side1 => refine (Kd.R_reads' (e := 3) (base := w.heap.size) (ok := fun k_ => True) (n := t347.length) (c := co93) ?_).2.2; exact (by (with_reducible repeat (first | apply ZrA | apply ZrW | apply ZrD)); exact (Kd.R_mono (set3_R (Kd.R_types HO349.out BK352.out (by decide)) (fun _ hk => hk.2)) (fun _ h_ => h_.1)))); (case side2 => exact (Kd.R_reads' HO349.out).2.1); rintro e w94 ⟨rfl, hb⟩; refine ⟨_, rfl, ?_⟩; have n0_ := Zam (Kd.R_below (by (with_reducible repeat (first | apply ZrA | apply ZrW | apply ZrD)); exact (Kd.R_mono (set3_R (Kd.R_types HO349.out BK352.out (by decide)) (fun _ hk => hk.2)) (fun _ h_ => h_.1))) hb); have n1_ := Zam (ZbB (g := gb352) (o := .cells #[.int .i64 t345, .int .i64 t346, .slice Ao93 t347.length co93] 82 (0, 0)) (by (with_reducible repeat (first | refine ZbW ?_ _ | refine ZbD ?_ | refine ZbA ?_ _)); exact set3_blk (by (with_reducible repeat (first | refine ZbW ?_ _ | refine ZbD ?_ | refine ZbA ?_ _)); exact BK352.out)) hb); have n2_ := Zam (ZbS (by repeat (first | (with_reducible first | exact HB.out | apply ZhA | apply ZhW | apply ZhD | refine ZhS ?_ GE352.out) | exact HB.out)) hb); clear HO349 BK352 HB; have HO349 := n0_; have BK352 := n1_; have HB := n2_; clear n0_ n1_ n2_; (try clear hb); (try clear hb2); (try clear hk); (try clear hi); have hcz95_0 : w94.cell? ⟨gb352, 0, none⟩ = some (.int .i64 t345) := (ZbC BK352.out 0).trans rfl; have hcz95_1 : w94.cell? ⟨gb352, 1, none⟩ = some (.int .i64 t346) := (ZbC BK352.out 1).trans rfl; have hcz95_2 : w94.cell? ⟨gb352, 2, none⟩ = some (.slice Ao93 t347.length co93) := (ZbC BK352.out 2).trans rfl; have hfz95_0 := ZbF BK352.out 0; have hfz95_1 := ZbF BK352.out 1; have hfz95_2 := ZbF BK352.out 2) | ((with_reducible refine gate_callee (f := 59) rfl ?_); refine goesL_ (some 27) rfl rfl Try.func59 (by kernel_rfl) rfl #[.agg #[.int .i64 t345, .int .i64 t346, .slice Ao93 t347.length co93], .int .i64 2] rfl (by (try simp only [Zm1, Zm2, Zm3]); first | done | rfl | (simp only [ZlL, ZlT]; rfl)) ?_; (with_reducible refine (impl_Shrink.calls k t345 t346 _ _ t347 2 t415 t416 t417 _ ?side1 ?side2 A87.out).mono ?_); (case side1 => repeat (first | exact (Kd.R_reads' HO349.out).2.2 | (with_reducible refine Kd.C_alloc ?_ _) | (with_reducible refine Kd.C_drewN ?_ _) | (with_reducible refine Kd.C_drew ?_))); (case side2 => exact (Kd.R_reads' HO349.out).2.1); rintro e w96 ⟨v418, rfl, ho0, hb⟩; refine ⟨_, rfl, ?_⟩; have n0_ := Zam (Kd.R_elder' (by (with_reducible repeat (first | apply ZrA | apply ZrW | apply ZrD)); exact HO349.out) (Kd.R_base ho0) hb); have n1_ := Zam (Kd.R_lower (Kd.R_new' ho0 (Kd.R_lt (by (with_reducible repeat (first | apply ZrA | apply ZrW | apply ZrD)); exact HO349.out))) (below_size (by repeat (first | (with_reducible first | exact HB.out | apply ZhA | apply ZhW | apply ZhD | refine ZhS ?_ GE352.out) | exact HB.out)))); have n2_ := Zam (ZbB (g := gb352) (o := .cells #[.int .i64 t345, .int .i64 t346, .slice Ao93 t347.length co93] 82 (0, 0)) (by (with_reducible repeat (first | refine ZbW ?_ _ | refine ZbD ?_ | refine ZbA ?_ _)); exact BK352.out) hb); have n3_ := Zam (ZbS (by repeat (first | (with_reducible first | exact HB.out | apply ZhA | apply ZhW | apply ZhD | refine ZhS ?_ GE352.out) | exact HB.out)) hb); clear HO349 BK352 HB; have HO349 := n0_; have HO419 := n1_; have BK352 := n2_; have HB := n3_; clear n0_ n1_ n2_ n3_; (try clear hb); (try clear hb2); (try clear hk); (try clear hi); (try clear ho0); have hcz97_0 : w96.cell? ⟨gb352, 0, none⟩ = some (.int .i64 t345) := (ZbC BK352.out 0).trans rfl; have hcz97_1 : w96.cell? ⟨gb352, 1, none⟩ = some (.int .i64 t346) := (ZbC BK352.out 1).trans rfl; have hcz97_2 : w96.cell? ⟨gb352, 2, none⟩ = some (.slice Ao93 t347.length co93) := (ZbC BK352.out 2).trans rfl; have hfz97_0 := ZbF BK352.out 0; have hfz97_1 := ZbF BK352.out 1; have hfz97_2 := ZbF BK352.out 2) | (go_at_call 60; (with_reducible refine (impl_Resize.calls k t345 t346 _ _ t347 t350 t351 t420 t421 t422 _ ?side1 ?side2 A89.out).mono ?_); (case side1 => repeat (first | exact (Kd.R_reads' HO349.out).2.2 | (with_reducible refine Kd.C_alloc ?_ _) | (with_reducible refine Kd.C_drewN ?_ _) | (with_reducible refine Kd.C_drew ?_))); (case side2 => exact (Kd.R_reads' HO349.out).2.1); rintro e w98 ⟨v423, rfl, ho0, hb⟩; have n0_ := Zam (Kd.R_elder' (by (with_reducible repeat (first | apply ZrA | apply ZrW | apply ZrD)); exact HO349.out) (Kd.R_base ho0) hb); have n1_ := Zam (Kd.R_elder' (by (with_reducible repeat (first | apply ZrA | apply ZrW | apply ZrD)); exact HO419.out) (Kd.R_base ho0) hb); have n2_ := Zam (Kd.R_lower (Kd.R_new' (Kd.R_new' ho0 (Kd.R_lt (by (with_reducible repeat (first | apply ZrA | apply ZrW | apply ZrD)); exact HO349.out))) (Kd.R_lt (by (with_reducible repeat (first | apply ZrA | apply ZrW | apply ZrD)); exact HO419.out))) (below_size (by repeat (first | (with_reducible first | exact HB.out | apply ZhA | apply ZhW | apply ZhD | refine ZhS ?_ GE352.out) | exact HB.out)))); have n3_ := Zam (ZbB (g := gb352) (o := .cells #[.int .i64 t345, .int .i64 t346, .slice Ao93 t347.length co93] 82 (0, 0)) (by (with_reducible repeat (first | refine ZbW ?_ _ | refine ZbD ?_ | refine ZbA ?_ _)); exact BK352.out) hb); have n4_ := Zam (ZbS (by repeat (first | (with_reducible first | exact HB.out | apply ZhA | apply ZhW | apply ZhD | refine ZhS ?_ GE352.out) | exact HB.out)) hb); clear HO349 HO419 BK352 HB; have HO349 := n0_; have HO419 := n1_; have HO424 := n2_; have BK352 := n3_; have HB := n4_; clear n0_ n1_ n2_ n3_ n4_; (try clear hb); (try clear hb2); (try clear hk); (try clear hi); (try clear ho0)))
  go_ret
  exact ⟨by first | rfl | (simp [*, errW_none, errW_some] <;> rfl), by repeat (first | (with_reducible first | exact HB.out | apply ZhA | apply ZhW | apply ZhD | refine ZhS ?_ GE352.out) | exact HB.out)⟩
 subst c5
 replace H : ((spec_Ends.f k t347).bind fun bt354 => ((impl_Shrink.f k t345 t346 t347 2).bind fun bt356 => ((impl_Shrink.f k t345 t346 t347 4).bind fun bt361 => ((impl_Resize.f k t345 t346 t347 t350 t351).bind fun bt366 => ((impl_Grow.f k t345 t346 t347 (wrap64 ((wrap64 (2 * t345)) - 1)) (wrap64 (2 * t346))).bind fun bt371 => ((some (([(⟨bt356.1, bt356.2.1, bt356.2.2⟩ : S82), (⟨bt361.1, bt361.2.1, bt361.2.2⟩ : S82), (⟨bt366.1, bt366.2.1, bt366.2.2⟩ : S82), (⟨bt371.1, bt371.2.1, bt371.2.2⟩ : S82)] : List (S82)) : List (S82))).bind fun y376 => ((spec_Shrink.f k t345 t346 t347 2).bind fun bt379 => ((spec_Shrink.f k t345 t346 t347 4).bind fun bt384 => ((spec_Resize.f k t345 t346 t347 t350 t351).bind fun bt389 => ((spec_Grow.f k t345 t346 t347 (wrap64 ((wrap64 (2 * t345)) - 1)) (wrap64 (2 * t346))).bind fun bt394 => (laws_FnSizes.l0 k bt354.1 bt354.2 (([(⟨bt379.1, bt379.2.1, bt379.2.2⟩ : S82), (⟨bt384.1, bt384.2.1, bt384.2.2⟩ : S82), (⟨bt389.1, bt389.2.1, bt389.2.2⟩ : S82), (⟨bt394.1, bt394.2.1, bt394.2.2⟩ : S82)] : List (S82))) y376 (y376.length : Int) 0 t345 t346 t347))))))))))) = some r := by rw [if_pos rfl] at H; exact H
 replace H := Zob.mp H
 obtain ⟨⟨t354, t355⟩, A60, H⟩ := H
 replace H : ((impl_Shrink.f k t345 t346 t347 2).bind fun bt356 => ((impl_Shrink.f k t345 t346 t347 4).bind fun bt361 => ((impl_Resize.f k t345 t346 t347 t350 t351).bind fun bt366 => ((impl_Grow.f k t345 t346 t347 (wrap64 ((wrap64 (2 * t345)) - 1)) (wrap64 (2 * t346))).bind fun bt371 => ((some (([(⟨bt356.1, bt356.2.1, bt356.2.2⟩ : S82), (⟨bt361.1, bt361.2.1, bt361.2.2⟩ : S82), (⟨bt366.1, bt366.2.1, bt366.2.2⟩ : S82), (⟨bt371.1, bt371.2.1, bt371.2.2⟩ : S82)] : List (S82)) : List (S82))).bind fun y376 => ((spec_Shrink.f k t345 t346 t347 2).bind fun bt379 => ((spec_Shrink.f k t345 t346 t347 4).bind fun bt384 => ((spec_Resize.f k t345 t346 t347 t350 t351).bind fun bt389 => ((spec_Grow.f k t345 t346 t347 (wrap64 ((wrap64 (2 * t345)) - 1)) (wrap64 (2 * t346))).bind fun bt394 => (laws_FnSizes.l0 k t354 t355 (([(⟨bt379.1, bt379.2.1, bt379.2.2⟩ : S82), (⟨bt384.1, bt384.2.1, bt384.2.2⟩ : S82), (⟨bt389.1, bt389.2.1, bt389.2.2⟩ : S82), (⟨bt394.1, bt394.2.1, bt394.2.2⟩ : S82)] : List (S82))) y376 (y376.length : Int) 0 t345 t346 t347)))))))))) = some r := H
 have A6 := Zam A60
 clear A60
 replace H := Zob.mp H
 obtain ⟨⟨t356, t357, t358⟩, A70, H⟩ := H
 replace H : ((impl_Shrink.f k t345 t346 t347 4).bind fun bt361 => ((impl_Resize.f k t345 t346 t347 t350 t351).bind fun bt366 => ((impl_Grow.f k t345 t346 t347 (wrap64 ((wrap64 (2 * t345)) - 1)) (wrap64 (2 * t346))).bind fun bt371 => ((some (([(⟨t356, t357, t358⟩ : S82), (⟨bt361.1, bt361.2.1, bt361.2.2⟩ : S82), (⟨bt366.1, bt366.2.1, bt366.2.2⟩ : S82), (⟨bt371.1, bt371.2.1, bt371.2.2⟩ : S82)] : List (S82)) : List (S82))).bind fun y376 => ((spec_Shrink.f k t345 t346 t347 2).bind fun bt379 => ((spec_Shrink.f k t345 t346 t347 4).bind fun bt384 => ((spec_Resize.f k t345 t346 t347 t350 t351).bind fun bt389 => ((spec_Grow.f k t345 t346 t347 (wrap64 ((wrap64 (2 * t345)) - 1)) (wrap64 (2 * t346))).bind fun bt394 => (laws_FnSizes.l0 k t354 t355 (([(⟨bt379.1, bt379.2.1, bt379.2.2⟩ : S82), (⟨bt384.1, bt384.2.1, bt384.2.2⟩ : S82), (⟨bt389.1, bt389.2.1, bt389.2.2⟩ : S82), (⟨bt394.1, bt394.2.1, bt394.2.2⟩ : S82)] : List (S82))) y376 (y376.length : Int) 0 t345 t346 t347))))))))) = some r := H
 have A7 := Zam A70
 clear A70
 replace H := Zob.mp H
 obtain ⟨⟨t361, t362, t363⟩, A80, H⟩ := H
 replace H : ((impl_Resize.f k t345 t346 t347 t350 t351).bind fun bt366 => ((impl_Grow.f k t345 t346 t347 (wrap64 ((wrap64 (2 * t345)) - 1)) (wrap64 (2 * t346))).bind fun bt371 => ((some (([(⟨t356, t357, t358⟩ : S82), (⟨t361, t362, t363⟩ : S82), (⟨bt366.1, bt366.2.1, bt366.2.2⟩ : S82), (⟨bt371.1, bt371.2.1, bt371.2.2⟩ : S82)] : List (S82)) : List (S82))).bind fun y376 => ((spec_Shrink.f k t345 t346 t347 2).bind fun bt379 => ((spec_Shrink.f k t345 t346 t347 4).bind fun bt384 => ((spec_Resize.f k t345 t346 t347 t350 t351).bind fun bt389 => ((spec_Grow.f k t345 t346 t347 (wrap64 ((wrap64 (2 * t345)) - 1)) (wrap64 (2 * t346))).bind fun bt394 => (laws_FnSizes.l0 k t354 t355 (([(⟨bt379.1, bt379.2.1, bt379.2.2⟩ : S82), (⟨bt384.1, bt384.2.1, bt384.2.2⟩ : S82), (⟨bt389.1, bt389.2.1, bt389.2.2⟩ : S82), (⟨bt394.1, bt394.2.1, bt394.2.2⟩ : S82)] : List (S82))) y376 (y376.length : Int) 0 t345 t346 t347)))))))) = some r := H
 have A8 := Zam A80
 clear A80
 replace H := Zob.mp H
 obtain ⟨⟨t366, t367, t368⟩, A90, H⟩ := H
 replace H : ((impl_Grow.f k t345 t346 t347 (wrap64 ((wrap64 (2 * t345)) - 1)) (wrap64 (2 * t346))).bind fun bt371 => ((some (([(⟨t356, t357, t358⟩ : S82), (⟨t361, t362, t363⟩ : S82), (⟨t366, t367, t368⟩ : S82), (⟨bt371.1, bt371.2.1, bt371.2.2⟩ : S82)] : List (S82)) : List (S82))).bind fun y376 => ((spec_Shrink.f k t345 t346 t347 2).bind fun bt379 => ((spec_Shrink.f k t345 t346 t347 4).bind fun bt384 => ((spec_Resize.f k t345 t346 t347 t350 t351).bind fun bt389 => ((spec_Grow.f k t345 t346 t347 (wrap64 ((wrap64 (2 * t345)) - 1)) (wrap64 (2 * t346))).bind fun bt394 => (laws_FnSizes.l0 k t354 t355 (([(⟨bt379.1, bt379.2.1, bt379.2.2⟩ : S82), (⟨bt384.1, bt384.2.1, bt384.2.2⟩ : S82), (⟨bt389.1, bt389.2.1, bt389.2.2⟩ : S82), (⟨bt394.1, bt394.2.1, bt394.2.2⟩ : S82)] : List (S82))) y376 (y376.length : Int) 0 t345 t346 t347))))))) = some r := H
 have A9 := Zam A90
 clear A90
 replace H := Zob.mp H
 obtain ⟨⟨t371, t372, t373⟩, A100, H⟩ := H
 replace H : ((some (([(⟨t356, t357, t358⟩ : S82), (⟨t361, t362, t363⟩ : S82), (⟨t366, t367, t368⟩ : S82), (⟨t371, t372, t373⟩ : S82)] : List (S82)) : List (S82))).bind fun y376 => ((spec_Shrink.f k t345 t346 t347 2).bind fun bt379 => ((spec_Shrink.f k t345 t346 t347 4).bind fun bt384 => ((spec_Resize.f k t345 t346 t347 t350 t351).bind fun bt389 => ((spec_Grow.f k t345 t346 t347 (wrap64 ((wrap64 (2 * t345)) - 1)) (wrap64 (2 * t346))).bind fun bt394 => (laws_FnSizes.l0 k t354 t355 (([(⟨bt379.1, bt379.2.1, bt379.2.2⟩ : S82), (⟨bt384.1, bt384.2.1, bt384.2.2⟩ : S82), (⟨bt389.1, bt389.2.1, bt389.2.2⟩ : S82), (⟨bt394.1, bt394.2.1, bt394.2.2⟩ : S82)] : List (S82))) y376 (y376.length : Int) 0 t345 t346 t347)))))) = some r := H
 have A10 := Zam A100
 clear A100
 obtain ⟨y376, hy376⟩ : ∃ y_ : List (S82), y_ = (([(⟨t356, t357, t358⟩ : S82), (⟨t361, t362, t363⟩ : S82), (⟨t366, t367, t368⟩ : S82), (⟨t371, t372, t373⟩ : S82)] : List (S82))) := ⟨_, rfl⟩
 replace H : ((spec_Shrink.f k t345 t346 t347 2).bind fun bt379 => ((spec_Shrink.f k t345 t346 t347 4).bind fun bt384 => ((spec_Resize.f k t345 t346 t347 t350 t351).bind fun bt389 => ((spec_Grow.f k t345 t346 t347 (wrap64 ((wrap64 (2 * t345)) - 1)) (wrap64 (2 * t346))).bind fun bt394 => (laws_FnSizes.l0 k t354 t355 (([(⟨bt379.1, bt379.2.1, bt379.2.2⟩ : S82), (⟨bt384.1, bt384.2.1, bt384.2.2⟩ : S82), (⟨bt389.1, bt389.2.1, bt389.2.2⟩ : S82), (⟨bt394.1, bt394.2.1, bt394.2.2⟩ : S82)] : List (S82))) y376 (y376.length : Int) 0 t345 t346 t347))))) = some r := by first | (rw [hy376]; with_reducible exact H) | (have H2_ := (Option.bind_some _ _).symm.trans H; rw [hy376]; with_reducible exact H2_) | (have H2_ := (Option.bind_some _ _).symm.trans H; with_reducible exact H2_) | with_reducible exact H | (rw [hy376]; exact H) | exact H
 have Ny376 := Zam hy376
 clear hy376
 replace H := Zob.mp H
 obtain ⟨⟨t379, t380, t381⟩, A110, H⟩ := H
 replace H : ((spec_Shrink.f k t345 t346 t347 4).bind fun bt384 => ((spec_Resize.f k t345 t346 t347 t350 t351).bind fun bt389 => ((spec_Grow.f k t345 t346 t347 (wrap64 ((wrap64 (2 * t345)) - 1)) (wrap64 (2 * t346))).bind fun bt394 => (laws_FnSizes.l0 k t354 t355 (([(⟨t379, t380, t381⟩ : S82), (⟨bt384.1, bt384.2.1, bt384.2.2⟩ : S82), (⟨bt389.1, bt389.2.1, bt389.2.2⟩ : S82), (⟨bt394.1, bt394.2.1, bt394.2.2⟩ : S82)] : List (S82))) y376 (y376.length : Int) 0 t345 t346 t347)))) = some r := H
 have A11 := Zam A110
 clear A110
 replace H := Zob.mp H
 obtain ⟨⟨t384, t385, t386⟩, A120, H⟩ := H
 replace H : ((spec_Resize.f k t345 t346 t347 t350 t351).bind fun bt389 => ((spec_Grow.f k t345 t346 t347 (wrap64 ((wrap64 (2 * t345)) - 1)) (wrap64 (2 * t346))).bind fun bt394 => (laws_FnSizes.l0 k t354 t355 (([(⟨t379, t380, t381⟩ : S82), (⟨t384, t385, t386⟩ : S82), (⟨bt389.1, bt389.2.1, bt389.2.2⟩ : S82), (⟨bt394.1, bt394.2.1, bt394.2.2⟩ : S82)] : List (S82))) y376 (y376.length : Int) 0 t345 t346 t347))) = some r := H
 have A12 := Zam A120
 clear A120
 replace H := Zob.mp H
 obtain ⟨⟨t389, t390, t391⟩, A130, H⟩ := H
 replace H : ((spec_Grow.f k t345 t346 t347 (wrap64 ((wrap64 (2 * t345)) - 1)) (wrap64 (2 * t346))).bind fun bt394 => (laws_FnSizes.l0 k t354 t355 (([(⟨t379, t380, t381⟩ : S82), (⟨t384, t385, t386⟩ : S82), (⟨t389, t390, t391⟩ : S82), (⟨bt394.1, bt394.2.1, bt394.2.2⟩ : S82)] : List (S82))) y376 (y376.length : Int) 0 t345 t346 t347)) = some r := H
 have A13 := Zam A130
 clear A130
 replace H := Zob.mp H
 obtain ⟨⟨t394, t395, t396⟩, A140, H⟩ := H
 replace H : (laws_FnSizes.l0 k t354 t355 (([(⟨t379, t380, t381⟩ : S82), (⟨t384, t385, t386⟩ : S82), (⟨t389, t390, t391⟩ : S82), (⟨t394, t395, t396⟩ : S82)] : List (S82))) y376 (y376.length : Int) 0 t345 t346 t347) = some r := H
 have A14 := Zam A140
 clear A140
 obtain ⟨y399, hy399⟩ : ∃ y_ : List (S82), y_ = (([(⟨t379, t380, t381⟩ : S82), (⟨t384, t385, t386⟩ : S82), (⟨t389, t390, t391⟩ : S82), (⟨t394, t395, t396⟩ : S82)] : List (S82))) := ⟨_, rfl⟩
 replace H : (laws_FnSizes.l0 k t354 t355 y399 y376 (y376.length : Int) 0 t345 t346 t347) = some r := by first | (rw [hy399]; with_reducible exact H) | (have H2_ := (Option.bind_some _ _).symm.trans H; rw [hy399]; with_reducible exact H2_) | (have H2_ := (Option.bind_some _ _).symm.trans H; with_reducible exact H2_) | with_reducible exact H | (rw [hy399]; exact H) | exact H
 have Ny399 := Zam hy399
 clear hy399
 have H' := Zam H
 clear H
 go_enter Try.func10, Try.ntmps10
 try go_wp2_with (first | ((with_reducible refine gate_callee (f := 57) rfl ?_); refine goesL_ (some 19) rfl rfl Try.func57 (by kernel_rfl) rfl #[.slice A0 l0.length c0] rfl (by (try simp only [Zm1, Zm2, Zm3]); first | done | rfl | (simp only [ZlL, ZlT]; rfl)) ?_; (with_reducible refine (spec_DrawResize.calls k _ _ l0 t345 t346 t347 t350 t351 _ ?side1 ?side2 A3.out).mono ?_); (case side1 => repeat (first | exact HR0.out | (with_reducible refine Kd.C_alloc ?_ _) | (with_reducible refine Kd.C_drewN ?_ _) | (with_reducible refine Kd.C_drew ?_))); (case side2 => exact HC0.out); rintro e w15 ⟨v348, rfl, ho0, hb⟩; refine ⟨_, rfl, ?_⟩; have n0_ := Zam (Kd.R_lower ho0 (below_size (by repeat (first | (with_reducible first | exact HB.out | apply ZhA | apply ZhW | apply ZhD) | exact HB.out)))); have n1_ := Zam (ZbS (by repeat (first | (with_reducible first | exact HB.out | apply ZhA | apply ZhW | apply ZhD) | exact HB.out)) hb); clear HB; have HO349 := n0_; have HB := n1_; clear n0_ n1_; (try clear hb); (try clear hb2); (try clear hk); (try clear hi); (try clear ho0)) | ((with_reducible refine gate_dst (N := 3) rfl ?_); refine box_event ?hg (N := 3) ?hd (cs := #[.int .i64 0, .int .i64 0, .slice none 0 0]) (t := 82) ?hr ?_; (case hd => rfl); (case hg => rfl); (case hr => first | (go_simp; done) | (go_simp; rfl)); intro gb352 hg w16 hbox hb; have n0_ := Zam (Kd.R_below (by (with_reducible repeat (first | apply ZrA | apply ZrW | apply ZrD)); exact HO349.out) hb); have n1_ := Zam (ZbS (by repeat (first | (with_reducible first | exact HB.out | apply ZhA | apply ZhW | apply ZhD) | exact HB.out)) hb); have n2_ := Zam (hbox); have n3_ := Zam ((by rw [hg]; exact (below_size (by repeat (first | (with_reducible first | exact HB.out | apply ZhA | apply ZhW | apply ZhD) | exact HB.out))) : w.heap.size ≤ gb352)); have n4_ := n3_; clear HO349 HB; have HO349 := n0_; have HB := n1_; have BK352 := n2_; have GW352 := n3_; have GE352 := n4_; clear n0_ n1_ n2_ n3_ n4_; clear hb hbox hg; have hcz17_0 : w16.cell? ⟨gb352, 0, none⟩ = some (.int .i64 0) := (ZbC BK352.out 0).trans rfl; have hcz17_1 : w16.cell? ⟨gb352, 1, none⟩ = some (.int .i64 0) := (ZbC BK352.out 1).trans rfl; have hcz17_2 : w16.cell? ⟨gb352, 2, none⟩ = some (.slice none 0 0) := (ZbC BK352.out 2).trans rfl; have hfz17_0 := ZbF BK352.out 0; have hfz17_1 := ZbF BK352.out 1; have hfz17_2 := ZbF BK352.out 2; obtain ⟨Ao18, co18, eo18⟩ := Kd.R_slice HO349.out; subst eo18) | ((with_reducible refine gate_callee (f := 58) rfl ?_); refine goesL_ (some 24) rfl rfl Try.func58 (by kernel_rfl) rfl #[.agg #[.int .i64 t345, .int .i64 t346, .slice Ao18 t347.length co18]] rfl (by (try simp only [Zm1, Zm2, Zm3]); first | done | rfl | (simp only [ZlL, ZlT]; rfl)) ?_; (with_reducible refine (spec_GoodPlane.calls k t345 t346 _ _ t347 true _ ?side1 ?side2 A4.out).mono ?_); (case side1 => refine (Kd.R_reads' (e := 3) (base := w.heap.size) (ok := fun k_ => True) (n := t347.length) (c := co18) ?_).2.2; exact (by (with_reducible repeat (first | apply ZrA | apply ZrW | apply ZrD)); exact (Kd.R_mono (set3_R (Kd.R_types HO349.out BK352.out (by decide)) (fun _ hk => hk.2)) (fun _ h_ => h_.1)))); (case side2 => exact (Kd.R_reads' HO349.out).2.1); rintro e w19 ⟨rfl, hb⟩; refine ⟨_, rfl, ?_⟩; have n0_ := Zam (Kd.R_below (by (with_reducible repeat (first | apply ZrA | apply ZrW | apply ZrD)); exact (Kd.R_mono (set3_R (Kd.R_types HO349.out BK352.out (by decide)) (fun _ hk => hk.2)) (fun _ h_ => h_.1))) hb); have n1_ := Zam (ZbB (g := gb352) (o := .cells #[.int .i64 t345, .int .i64 t346, .slice Ao18 t347.length co18] 82 (0, 0)) (by (with_reducible repeat (first | refine ZbW ?_ _ | refine ZbD ?_ | refine ZbA ?_ _)); exact set3_blk (by (with_reducible repeat (first | refine ZbW ?_ _ | refine ZbD ?_ | refine ZbA ?_ _)); exact BK352.out)) hb); have n2_ := Zam (ZbS (by repeat (first | (with_reducible first | exact HB.out | apply ZhA | apply ZhW | apply ZhD | refine ZhS ?_ GE352.out) | exact HB.out)) hb); clear HO349 BK352 HB; have HO349 := n0_; have BK352 := n1_; have HB := n2_; clear n0_ n1_ n2_; (try clear hb); (try clear hb2); (try clear hk); (try clear hi); have hcz20_0 : w19.cell? ⟨gb352, 0, none⟩ = some (.int .i64 t345) := (ZbC BK352.out 0).trans rfl; have hcz20_1 : w19.cell? ⟨gb352, 1, none⟩ = some (.int .i64 t346) := (ZbC BK352.out 1).trans rfl; have hcz20_2 : w19.cell? ⟨gb352, 2, none⟩ = some (.slice Ao18 t347.length co18) := (ZbC BK352.out 2).trans rfl; have hfz20_0 := ZbF BK352.out 0; have hfz20_1 := ZbF BK352.out 1; have hfz20_2 := ZbF BK352.out 2) | ((with_reducible refine gate_callee (f := 61) rfl ?_); refine goesL_ (some 41) rfl rfl Try.func61 (by kernel_rfl) rfl #[.slice Ao18 t347.length co18] rfl (by (try simp only [Zm1, Zm2, Zm3]); first | done | rfl | (simp only [ZlL, ZlT]; rfl)) ?_; (with_reducible refine (spec_Ends.calls k _ _ t347 t354 t355 _ ?side1 ?side2 A6.out).mono ?_); (case side1 => repeat (first | exact (Kd.R_reads' HO349.out).2.2 | (with_reducible refine Kd.C_alloc ?_ _) | (with_reducible refine Kd.C_drewN ?_ _) | (with_reducible refine Kd.C_drew ?_))); (case side2 => exact (Kd.R_reads' HO349.out).2.1); rintro e w' ⟨rfl, ⟨nd, rfl⟩⟩; refine ⟨_, rfl, ?_⟩))
 (try (rw [drewN_self w19]; generalize hq_ : World.drewN w19 _ = w19; have n0_ : Aside0 (Kd.R (Kd.int .i64) 3 w19 w.heap.size (fun _ => True) (.slice Ao18 t347.length co18) t347) := ⟨by rw [← hq_]; exact (by (with_reducible repeat (first | apply ZrA | apply ZrW | apply ZrD)); exact HO349.out)⟩; have n1_ : Aside0 (w19.heap[gb352]? = some (.cells #[.int .i64 t345, .int .i64 t346, .slice Ao18 t347.length co18] 82 (0, 0))) := ⟨by rw [← hq_]; exact (by (with_reducible repeat (first | refine ZbW ?_ _ | refine ZbD ?_ | refine ZbA ?_ _)); exact BK352.out)⟩; have n2_ : Aside0 (Below w.heap.size w w19) := ⟨by rw [← hq_]; exact (by repeat (first | (with_reducible first | exact HB.out | apply ZhA | apply ZhW | apply ZhD | refine ZhS ?_ GE352.out) | exact HB.out))⟩; clear HO349 BK352 HB hq_; have HO349 := n0_; have BK352 := n1_; have HB := n2_; clear n0_ n1_ n2_))
 have n0_ := Zam (ZrD HO349.out)
 have n1_ := Zam (ZbD BK352.out)
 have n2_ := Zam (ZhD HB.out)
 clear HO349
 clear BK352
 clear HB
 have HO349 := n0_
 have BK352 := n1_
 have HB := n2_
 clear n0_ n1_ n2_
 refine start_ (n := 19) (S := fun w' => w'.cell? ⟨gb352, 0, none⟩ = some (.int .i64 t345) ∧ w'.cell? ⟨gb352, 1, none⟩ = some (.int .i64 t346) ∧ w'.cell? ⟨gb352, 2, none⟩ = some (.slice Ao18 t347.length co18)) (ds := []) #[false, false, false, false, false, false, false, false, false, false, false, false, false, false, false, false, false, false, false] (by kernel_rfl) rfl rfl ⟨(ZbC BK352.out 0).trans rfl, (ZbC BK352.out 1).trans rfl, (ZbC BK352.out 2).trans rfl⟩ (fun hHeld => ?_); refine with_tabW laws_FnSizes.tab7 laws_FnSizes.bits7 (fun HT_ HW_ => ?_)
 generalize w19.drew = w21 at HO349 BK352 HB hHeld ⊢
 refine pure_ (i := 5) (N := some 49) (v := ?_) (a' := ?_) #[false, false, false, false, false, true, false, false, false, false, false, false, false, false, false, false, false, false, false] rfl rfl (any_of HT_.out (by kernel_rfl)) (fun _ _ _ h => h) (Or.inl ⟨by rfl, ?_⟩) ?_ ?_
 rotate_left
 ·intro w'
  go_simp
  with_reducible rfl
 rotate_left
 ·simp only [Act.put, Zl1, Zl2, Zl3, i64_w, i32_w]
  rfl
 refine pure_ (i := 6) (N := some 50) (v := ?_) (a' := ?_) #[false, false, false, false, false, true, true, false, false, false, false, false, false, false, false, false, false, false, false] rfl rfl (any_of HT_.out (by kernel_rfl)) (fun _ _ _ h => h) (Or.inl ⟨by rfl, ?_⟩) ?_ ?_
 rotate_left
 ·intro w'
  go_simp
  with_reducible rfl
 rotate_left
 ·simp only [Act.put, Zl1, Zl2, Zl3, i64_w, i32_w]
  rfl
 refine pure_ (i := 9) (N := some 53) (v := ?_) (a' := ?_) #[false, false, false, false, false, true, true, false, false, true, false, false, false, false, false, false, false, false, false] rfl rfl (any_of HT_.out (by kernel_rfl)) (fun _ _ _ h => h) (Or.inl ⟨by rfl, ?_⟩) ?_ ?_
 rotate_left
 ·intro w'
  go_simp
  with_reducible rfl
 rotate_left
 ·simp only [Act.put, Zl1, Zl2, Zl3, i64_w, i32_w]
  rfl
 refine pure_ (i := 13) (N := some 57) (v := ?_) (a' := ?_) #[false, false, false, false, false, true, true, false, false, true, false, false, false, true, false, false, false, false, false] rfl rfl (any_of HT_.out (by kernel_rfl)) (fun _ _ _ h => h) (Or.inl ⟨by rfl, ?_⟩) ?_ ?_
 rotate_left
 ·intro w'
  go_simp
  with_reducible rfl
 rotate_left
 ·simp only [Act.put, Zl1, Zl2, Zl3, i64_w, i32_w]
  rfl
 refine take_ (i := 0) (N := some 44) (v := ?_) (a' := ?_) #[true, false, false, false, false, true, true, false, false, true, false, false, false, true, false, false, false, false, false] rfl rfl (take_ofW HT_.out HW_.out (by kernel_rfl)) (fun _ _ _ h => h) (Or.inl ⟨by rfl, ?_⟩) hHeld ?_ ?_
 rotate_left
 ·rintro w' ⟨s0, s1, s2⟩
  go_simp
  with_reducible rfl
 rotate_left
 ·simp only [Act.put, Zl1, Zl2, Zl3, i64_w, i32_w]
  rfl
 refine take_ (i := 2) (N := some 46) (v := ?_) (a' := ?_) #[true, false, true, false, false, true, true, false, false, true, false, false, false, true, false, false, false, false, false] rfl rfl (take_ofW HT_.out HW_.out (by kernel_rfl)) (fun _ _ _ h => h) (Or.inl ⟨by rfl, ?_⟩) hHeld ?_ ?_
 rotate_left
 ·rintro w' ⟨s0, s1, s2⟩
  go_simp
  with_reducible rfl
 rotate_left
 ·simp only [Act.put, Zl1, Zl2, Zl3, i64_w, i32_w]
  rfl
 refine take_ (i := 4) (N := some 48) (v := ?_) (a' := ?_) #[true, false, true, false, true, true, true, false, false, true, false, false, false, true, false, false, false, false, false] rfl rfl (take_ofW HT_.out HW_.out (by kernel_rfl)) (fun _ _ _ h => h) (Or.inl ⟨by rfl, ?_⟩) hHeld ?_ ?_
 rotate_left
 ·rintro w' ⟨s0, s1, s2⟩
  go_simp
  with_reducible rfl
 rotate_left
 ·simp only [Act.put, Zl1, Zl2, Zl3, i64_w, i32_w]
  rfl
 refine take_ (i := 8) (N := some 52) (v := ?_) (a' := ?_) #[true, false, true, false, true, true, true, false, true, true, false, false, false, true, false, false, false, false, false] rfl rfl (take_ofW HT_.out HW_.out (by kernel_rfl)) (fun _ _ _ h => h) (Or.inl ⟨by rfl, ?_⟩) hHeld ?_ ?_
 rotate_left
 ·rintro w' ⟨s0, s1, s2⟩
  go_simp
  with_reducible rfl
 rotate_left
 ·simp only [Act.put, Zl1, Zl2, Zl3, i64_w, i32_w]
  rfl
 refine take_ (i := 10) (N := some 54) (v := ?_) (a' := ?_) #[true, false, true, false, true, true, true, false, true, true, true, false, false, true, false, false, false, false, false] rfl rfl (take_ofW HT_.out HW_.out (by kernel_rfl)) (fun _ _ _ h => h) (Or.inl ⟨by rfl, ?_⟩) hHeld ?_ ?_
 rotate_left
 ·rintro w' ⟨s0, s1, s2⟩
  go_simp
  with_reducible rfl
 rotate_left
 ·simp only [Act.put, Zl1, Zl2, Zl3, i64_w, i32_w]
  rfl
 refine pure_ (i := 11) (N := some 55) (v := ?_) (a' := ?_) #[true, false, true, false, true, true, true, false, true, true, true, true, false, true, false, false, false, false, false] rfl rfl (any_of HT_.out (by kernel_rfl)) (fun _ _ _ h => h) (Or.inl ⟨by rfl, ?_⟩) ?_ ?_
 rotate_left
 ·intro w'
  go_simp
  with_reducible rfl
 rotate_left
 ·simp only [Act.put, Zl1, Zl2, Zl3, i64_w, i32_w]
  rfl
 refine pure_ (i := 12) (N := some 56) (v := ?_) (a' := ?_) #[true, false, true, false, true, true, true, false, true, true, true, true, true, true, false, false, false, false, false] rfl rfl (any_of HT_.out (by kernel_rfl)) (fun _ _ _ h => h) (Or.inl ⟨by rfl, ?_⟩) ?_ ?_
 rotate_left
 ·intro w'
  go_simp
  with_reducible rfl
 rotate_left
 ·simp only [Act.put, Zl1, Zl2, Zl3, i64_w, i32_w]
  rfl
 refine take_ (i := 14) (N := some 58) (v := ?_) (a' := ?_) #[true, false, true, false, true, true, true, false, true, true, true, true, true, true, true, false, false, false, false] rfl rfl (take_ofW HT_.out HW_.out (by kernel_rfl)) (fun _ _ _ h => h) (Or.inl ⟨by rfl, ?_⟩) hHeld ?_ ?_
 rotate_left
 ·rintro w' ⟨s0, s1, s2⟩
  go_simp
  with_reducible rfl
 rotate_left
 ·simp only [Act.put, Zl1, Zl2, Zl3, i64_w, i32_w]
  rfl
 refine pure_ (i := 15) (N := some 59) (v := ?_) (a' := ?_) #[true, false, true, false, true, true, true, false, true, true, true, true, true, true, true, true, false, false, false] rfl rfl (any_of HT_.out (by kernel_rfl)) (fun _ _ _ h => h) (Or.inl ⟨by rfl, ?_⟩) ?_ ?_
 rotate_left
 ·intro w'
  go_simp
  with_reducible rfl
 rotate_left
 ·simp only [Act.put, Zl1, Zl2, Zl3, i64_w, i32_w]
  rfl
 refine one_ (i := 1) (N := some 45) #[true, true, true, false, true, true, true, false, true, true, true, true, true, true, true, true, false, false, false] rfl rfl (one_of HT_.out (by kernel_rfl)) (by decide) (fun K hK => ?_)
 refine goes_ Try.func59 (by kernel_rfl) rfl #[.agg #[.int .i64 t345, .int .i64 t346, .slice Ao18 t347.length co18], .int .i64 2] (by rfl) rfl rfl (by (try simp only [Zm1, Zm2, Zm3]); first | done | rfl | (simp only [ZlL, ZlT]; rfl)) ?_
 with_reducible refine (impl_Shrink.calls k t345 t346 _ _ t347 2 t356 t357 t358 _ ?side1 ?side2 A7.out).mono ?_
 (case side1 => repeat (first | exact (Kd.R_reads' HO349.out).2.2 | (with_reducible refine Kd.C_alloc ?_ _) | (with_reducible refine Kd.C_drewN ?_ _) | (with_reducible refine Kd.C_drew ?_)))
 (case side2 => exact (Kd.R_reads' HO349.out).2.1)
 rintro e w22 ⟨v359, rfl, ho0, hb⟩
 refine ⟨_, rfl, ?_⟩
 have n0_ := Zam (Kd.R_elder' (by (with_reducible repeat (first | apply ZrA | apply ZrW | apply ZrD)); exact HO349.out) (Kd.R_base ho0) hb)
 have n1_ := Zam (Kd.R_lower (Kd.R_new' ho0 (Kd.R_lt (by (with_reducible repeat (first | apply ZrA | apply ZrW | apply ZrD)); exact HO349.out))) (below_size (by repeat (first | (with_reducible first | exact HB.out | apply ZhA | apply ZhW | apply ZhD | refine ZhS ?_ GE352.out) | exact HB.out))))
 have n2_ := Zam (ZbB (g := gb352) (o := .cells #[.int .i64 t345, .int .i64 t346, .slice Ao18 t347.length co18] 82 (0, 0)) (by (with_reducible repeat (first | refine ZbW ?_ _ | refine ZbD ?_ | refine ZbA ?_ _)); exact BK352.out) hb)
 have n3_ := Zam (ZbS (by repeat (first | (with_reducible first | exact HB.out | apply ZhA | apply ZhW | apply ZhD | refine ZhS ?_ GE352.out) | exact HB.out)) hb)
 clear HO349
 clear BK352
 clear HB
 have HO349 := n0_
 have HO360 := n1_
 have BK352 := n2_
 have HB := n3_
 clear n0_ n1_ n2_ n3_
 (try clear hb)
 (try clear hb2)
 (try clear hk)
 (try clear hi)
 (try clear ho0)
 refine hK.out _ _ ⟨(ZbC BK352.out 0).trans rfl, (ZbC BK352.out 1).trans rfl, (ZbC BK352.out 2).trans rfl⟩ (fun hHeld => ?_)
 clear hK K
 refine norm_ (a' := ?_) ?_ ?_
 rotate_left
 ·show Act.put _ (some 45) _ = _
  simp only [Act.put, Zl1, Zl2, Zl3, i64_w, i32_w]
  rfl
 refine one_ (i := 3) (N := some 47) #[true, true, true, true, true, true, true, false, true, true, true, true, true, true, true, true, false, false, false] rfl rfl (one_of HT_.out (by kernel_rfl)) (by decide) (fun K hK => ?_)
 refine goes_ Try.func59 (by kernel_rfl) rfl #[.agg #[.int .i64 t345, .int .i64 t346, .slice Ao18 t347.length co18], .int .i64 4] (by rfl) rfl rfl (by (try simp only [Zm1, Zm2, Zm3]); first | done | rfl | (simp only [ZlL, ZlT]; rfl)) ?_
 with_reducible refine (impl_Shrink.calls k t345 t346 _ _ t347 4 t361 t362 t363 _ ?side1 ?side2 A8.out).mono ?_
 (case side1 => repeat (first | exact (Kd.R_reads' HO349.out).2.2 | (with_reducible refine Kd.C_alloc ?_ _) | (with_reducible refine Kd.C_drewN ?_ _) | (with_reducible refine Kd.C_drew ?_)))
 (case side2 => exact (Kd.R_reads' HO349.out).2.1)
 rintro e w23 ⟨v364, rfl, ho0, hb⟩
 refine ⟨_, rfl, ?_⟩
 have n0_ := Zam (Kd.R_elder' (by (with_reducible repeat (first | apply ZrA | apply ZrW | apply ZrD)); exact HO349.out) (Kd.R_base ho0) hb)
 have n1_ := Zam (Kd.R_elder' (by (with_reducible repeat (first | apply ZrA | apply ZrW | apply ZrD)); exact HO360.out) (Kd.R_base ho0) hb)
 have n2_ := Zam (Kd.R_lower (Kd.R_new' (Kd.R_new' ho0 (Kd.R_lt (by (with_reducible repeat (first | apply ZrA | apply ZrW | apply ZrD)); exact HO349.out))) (Kd.R_lt (by (with_reducible repeat (first | apply ZrA | apply ZrW | apply ZrD)); exact HO360.out))) (below_size (by repeat (first | (with_reducible first | exact HB.out | apply ZhA | apply ZhW | apply ZhD | refine ZhS ?_ GE352.out) | exact HB.out))))
 have n3_ := Zam (ZbB (g := gb352) (o := .cells #[.int .i64 t345, .int .i64 t346, .slice Ao18 t347.length co18] 82 (0, 0)) (by (with_reducible repeat (first | refine ZbW ?_ _ | refine ZbD ?_ | refine ZbA ?_ _)); exact BK352.out) hb)
 have n4_ := Zam (ZbS (by repeat (first | (with_reducible first | exact HB.out | apply ZhA | apply ZhW | apply ZhD | refine ZhS ?_ GE352.out) | exact HB.out)) hb)
 clear HO349
 clear HO360
 clear BK352
 clear HB
 have HO349 := n0_
 have HO360 := n1_
 have HO365 := n2_
 have BK352 := n3_
 have HB := n4_
 clear n0_ n1_ n2_ n3_ n4_
 (try clear hb)
 (try clear hb2)
 (try clear hk)
 (try clear hi)
 (try clear ho0)
 refine hK.out _ _ ⟨(ZbC BK352.out 0).trans rfl, (ZbC BK352.out 1).trans rfl, (ZbC BK352.out 2).trans rfl⟩ (fun hHeld => ?_)
 clear hK K
 refine norm_ (a' := ?_) ?_ ?_
 rotate_left
 ·show Act.put _ (some 47) _ = _
  simp only [Act.put, Zl1, Zl2, Zl3, i64_w, i32_w]
  rfl
 refine one_ (i := 7) (N := some 51) #[true, true, true, true, true, true, true, true, true, true, true, true, true, true, true, true, false, false, false] rfl rfl (one_of HT_.out (by kernel_rfl)) (by decide) (fun K hK => ?_)
 refine goes_ Try.func60 (by kernel_rfl) rfl #[.agg #[.int .i64 t345, .int .i64 t346, .slice Ao18 t347.length co18], .int .i64 t350, .int .i64 t351] (by rfl) rfl rfl (by (try simp only [Zm1, Zm2, Zm3]); first | done | rfl | (simp only [ZlL, ZlT]; rfl)) ?_
 with_reducible refine (impl_Resize.calls k t345 t346 _ _ t347 t350 t351 t366 t367 t368 _ ?side1 ?side2 A9.out).mono ?_
 (case side1 => repeat (first | exact (Kd.R_reads' HO349.out).2.2 | (with_reducible refine Kd.C_alloc ?_ _) | (with_reducible refine Kd.C_drewN ?_ _) | (with_reducible refine Kd.C_drew ?_)))
 (case side2 => exact (Kd.R_reads' HO349.out).2.1)
 rintro e w24 ⟨v369, rfl, ho0, hb⟩
 refine ⟨_, rfl, ?_⟩
 have n0_ := Zam (Kd.R_elder' (by (with_reducible repeat (first | apply ZrA | apply ZrW | apply ZrD)); exact HO349.out) (Kd.R_base ho0) hb)
 have n1_ := Zam (Kd.R_elder' (by (with_reducible repeat (first | apply ZrA | apply ZrW | apply ZrD)); exact HO360.out) (Kd.R_base ho0) hb)
 have n2_ := Zam (Kd.R_elder' (by (with_reducible repeat (first | apply ZrA | apply ZrW | apply ZrD)); exact HO365.out) (Kd.R_base ho0) hb)
 have n3_ := Zam (Kd.R_lower (Kd.R_new' (Kd.R_new' (Kd.R_new' ho0 (Kd.R_lt (by (with_reducible repeat (first | apply ZrA | apply ZrW | apply ZrD)); exact HO349.out))) (Kd.R_lt (by (with_reducible repeat (first | apply ZrA | apply ZrW | apply ZrD)); exact HO360.out))) (Kd.R_lt (by (with_reducible repeat (first | apply ZrA | apply ZrW | apply ZrD)); exact HO365.out))) (below_size (by repeat (first | (with_reducible first | exact HB.out | apply ZhA | apply ZhW | apply ZhD | refine ZhS ?_ GE352.out) | exact HB.out))))
 have n4_ := Zam (ZbB (g := gb352) (o := .cells #[.int .i64 t345, .int .i64 t346, .slice Ao18 t347.length co18] 82 (0, 0)) (by (with_reducible repeat (first | refine ZbW ?_ _ | refine ZbD ?_ | refine ZbA ?_ _)); exact BK352.out) hb)
 have n5_ := Zam (ZbS (by repeat (first | (with_reducible first | exact HB.out | apply ZhA | apply ZhW | apply ZhD | refine ZhS ?_ GE352.out) | exact HB.out)) hb)
 clear HO349
 clear HO360
 clear HO365
 clear BK352
 clear HB
 have HO349 := n0_
 have HO360 := n1_
 have HO365 := n2_
 have HO370 := n3_
 have BK352 := n4_
 have HB := n5_
 clear n0_ n1_ n2_ n3_ n4_ n5_
 (try clear hb)
 (try clear hb2)
 (try clear hk)
 (try clear hi)
 (try clear ho0)
 refine hK.out _ _ ⟨(ZbC BK352.out 0).trans rfl, (ZbC BK352.out 1).trans rfl, (ZbC BK352.out 2).trans rfl⟩ (fun hHeld => ?_)
 clear hK K
 refine norm_ (a' := ?_) ?_ ?_
 rotate_left
 ·show Act.put _ (some 51) _ = _
  simp only [Act.put, Zl1, Zl2, Zl3, i64_w, i32_w]
  rfl
 refine one_ (i := 16) (N := some 60) #[true, true, true, true, true, true, true, true, true, true, true, true, true, true, true, true, true, false, false] rfl rfl (one_of HT_.out (by kernel_rfl)) (by decide) (fun K hK => ?_)
 refine goes_ Try.func62 (by kernel_rfl) rfl #[.agg #[.int .i64 t345, .int .i64 t346, .slice Ao18 t347.length co18], .int .i64 (wrap64 ((wrap64 (2 * t345)) - 1)), .int .i64 (wrap64 (2 * t346))] (by rfl) rfl rfl (by (try simp only [Zm1, Zm2, Zm3]); first | done | rfl | (simp only [ZlL, ZlT]; rfl)) ?_
 with_reducible refine (impl_Grow.calls k t345 t346 _ _ t347 (wrap64 ((wrap64 (2 * t345)) - 1)) (wrap64 (2 * t346)) t371 t372 t373 _ ?side1 ?side2 A10.out).mono ?_
 (case side1 => repeat (first | exact (Kd.R_reads' HO349.out).2.2 | (with_reducible refine Kd.C_alloc ?_ _) | (with_reducible refine Kd.C_drewN ?_ _) | (with_reducible refine Kd.C_drew ?_)))
 (case side2 => exact (Kd.R_reads' HO349.out).2.1)
 rintro e w25 ⟨v374, rfl, ho0, hb⟩
 refine ⟨_, rfl, ?_⟩
 have n0_ := Zam (Kd.R_elder' (by (with_reducible repeat (first | apply ZrA | apply ZrW | apply ZrD)); exact HO349.out) (Kd.R_base ho0) hb)
 have n1_ := Zam (Kd.R_elder' (by (with_reducible repeat (first | apply ZrA | apply ZrW | apply ZrD)); exact HO360.out) (Kd.R_base ho0) hb)
 have n2_ := Zam (Kd.R_elder' (by (with_reducible repeat (first | apply ZrA | apply ZrW | apply ZrD)); exact HO365.out) (Kd.R_base ho0) hb)
 have n3_ := Zam (Kd.R_elder' (by (with_reducible repeat (first | apply ZrA | apply ZrW | apply ZrD)); exact HO370.out) (Kd.R_base ho0) hb)
 have n4_ := Zam (Kd.R_lower (Kd.R_new' (Kd.R_new' (Kd.R_new' (Kd.R_new' ho0 (Kd.R_lt (by (with_reducible repeat (first | apply ZrA | apply ZrW | apply ZrD)); exact HO349.out))) (Kd.R_lt (by (with_reducible repeat (first | apply ZrA | apply ZrW | apply ZrD)); exact HO360.out))) (Kd.R_lt (by (with_reducible repeat (first | apply ZrA | apply ZrW | apply ZrD)); exact HO365.out))) (Kd.R_lt (by (with_reducible repeat (first | apply ZrA | apply ZrW | apply ZrD)); exact HO370.out))) (below_size (by repeat (first | (with_reducible first | exact HB.out | apply ZhA | apply ZhW | apply ZhD | refine ZhS ?_ GE352.out) | exact HB.out))))
 have n5_ := Zam (ZbB (g := gb352) (o := .cells #[.int .i64 t345, .int .i64 t346, .slice Ao18 t347.length co18] 82 (0, 0)) (by (with_reducible repeat (first | refine ZbW ?_ _ | refine ZbD ?_ | refine ZbA ?_ _)); exact BK352.out) hb)
 have n6_ := Zam (ZbS (by repeat (first | (with_reducible first | exact HB.out | apply ZhA | apply ZhW | apply ZhD | refine ZhS ?_ GE352.out) | exact HB.out)) hb)
 clear HO349
 clear HO360
 clear HO365
 clear HO370
 clear BK352
 clear HB
 have HO349 := n0_
 have HO360 := n1_
 have HO365 := n2_
 have HO370 := n3_
 have HO375 := n4_
 have BK352 := n5_
 have HB := n6_
 clear n0_ n1_ n2_ n3_ n4_ n5_ n6_
 (try clear hb)
 (try clear hb2)
 (try clear hk)
 (try clear hi)
 (try clear ho0)
 obtain ⟨Ao26, co26, eo26⟩ := Kd.R_slice HO360.out
 (first | subst eo26 | (injection eo26 with f1_ f2_ f3_; have f4_ := f1_.symm; have f5_ := f3_.symm; clear f1_ f2_ f3_; subst f4_; subst f5_))
 obtain ⟨Ao27, co27, eo27⟩ := Kd.R_slice HO365.out
 (first | subst eo27 | (injection eo27 with f1_ f2_ f3_; have f4_ := f1_.symm; have f5_ := f3_.symm; clear f1_ f2_ f3_; subst f4_; subst f5_))
 obtain ⟨Ao28, co28, eo28⟩ := Kd.R_slice HO370.out
 (first | subst eo28 | (injection eo28 with f1_ f2_ f3_; have f4_ := f1_.symm; have f5_ := f3_.symm; clear f1_ f2_ f3_; subst f4_; subst f5_))
 obtain ⟨Ao29, co29, eo29⟩ := Kd.R_slice HO375.out
 (first | subst eo29 | (injection eo29 with f1_ f2_ f3_; have f4_ := f1_.symm; have f5_ := f3_.symm; clear f1_ f2_ f3_; subst f4_; subst f5_))
 refine hK.out _ _ ⟨(ZbC BK352.out 0).trans rfl, (ZbC BK352.out 1).trans rfl, (ZbC BK352.out 2).trans rfl⟩ (fun hHeld => ?_)
 clear hK K
 refine norm_ (a' := ?_) ?_ ?_
 rotate_left
 ·show Act.put _ (some 60) _ = _
  simp only [Act.put, Zl1, Zl2, Zl3, i64_w, i32_w]
  rfl
 refine one_ (i := 17) (N := some 61) #[true, true, true, true, true, true, true, true, true, true, true, true, true, true, true, true, true, true, false] rfl rfl (one_of HT_.out (by kernel_rfl)) (by decide) (fun K hK => ?_)
 refine Kd.N_lit_step k82 _ 82 ?hg (N' := 61) ?hd (xs := ([(⟨t356, t357, t358⟩ : S82), (⟨t361, t362, t363⟩ : S82), (⟨t366, t367, t368⟩ : S82), (⟨t371, t372, t373⟩ : S82)] : List (S82))) (inner := [.int .i64 t356, .int .i64 t357, .slice Ao26 t358.length co26, .int .i64 t361, .int .i64 t362, .slice Ao27 t363.length co27, .int .i64 t366, .int .i64 t367, .slice Ao28 t368.length co28, .int .i64 t371, .int .i64 t372, .slice Ao29 t373.length co29]) (ok := (fun k_ => some k_ ≠ (.slice Ao18 t347.length co18 : Value).ownBlock ∧ k_ ≠ gb352)) (okp := (fun k_ => some k_ ≠ (.slice Ao18 t347.length co18 : Value).ownBlock ∧ k_ ≠ gb352)) ?hr ?hp (fun _ hk => hk) ((show ∀ k_, w25.heap.size ≤ k_ → (fun k_ => some k_ ≠ (.slice Ao18 t347.length co18 : Value).ownBlock ∧ k_ ≠ gb352) k_ from fun k_ hk => ⟨Kd.fresh' (Kd.R_lt (by (with_reducible repeat (first | apply ZrA | apply ZrW | apply ZrD)); exact HO349.out)) k_ hk, Kd.freshB (g := gb352) (o := .cells #[.int .i64 t345, .int .i64 t346, .slice Ao18 t347.length co18] 82 (0, 0)) (by (with_reducible repeat (first | refine ZbW ?_ _ | refine ZbD ?_ | refine ZbA ?_ _)); exact BK352.out) k_ hk⟩) _ (Nat.le_refl _)) (Below.refl _ _) (Nat.le_refl _) (by simp) ?_; (case hd => rfl); (case hg => rfl); (case hr => first | (go_simp; done) | (go_simp; rfl)); (case hp => exact (Reps.c3 (show Kd.FK k82 _ _ (⟨t356, t357, t358⟩ : S82) [.int .i64 t356, .int .i64 t357, .slice Ao26 t358.length co26] from (k82_mkF _ _ (⟨t356, t357, t358⟩ : S82) (Kd.R_reads' (Kd.R_mono (ok' := (fun k_ => some k_ ≠ (.slice Ao18 t347.length co18 : Value).ownBlock ∧ k_ ≠ gb352)) (Kd.R_types (HO360.out) BK352.out (by decide)) (fun k_ hk => ⟨hk.1.1.1.1.2, hk.2⟩))).2.1 (Kd.R_F (Kd.R_mono (ok' := (fun k_ => some k_ ≠ (.slice Ao18 t347.length co18 : Value).ownBlock ∧ k_ ≠ gb352)) (Kd.R_types (HO360.out) BK352.out (by decide)) (fun k_ hk => ⟨hk.1.1.1.1.2, hk.2⟩))))) (Reps.c3 (show Kd.FK k82 _ _ (⟨t361, t362, t363⟩ : S82) [.int .i64 t361, .int .i64 t362, .slice Ao27 t363.length co27] from (k82_mkF _ _ (⟨t361, t362, t363⟩ : S82) (Kd.R_reads' (Kd.R_mono (ok' := (fun k_ => some k_ ≠ (.slice Ao18 t347.length co18 : Value).ownBlock ∧ k_ ≠ gb352)) (Kd.R_types (HO365.out) BK352.out (by decide)) (fun k_ hk => ⟨hk.1.1.1.1.2, hk.2⟩))).2.1 (Kd.R_F (Kd.R_mono (ok' := (fun k_ => some k_ ≠ (.slice Ao18 t347.length co18 : Value).ownBlock ∧ k_ ≠ gb352)) (Kd.R_types (HO365.out) BK352.out (by decide)) (fun k_ hk => ⟨hk.1.1.1.1.2, hk.2⟩))))) (Reps.c3 (show Kd.FK k82 _ _ (⟨t366, t367, t368⟩ : S82) [.int .i64 t366, .int .i64 t367, .slice Ao28 t368.length co28] from (k82_mkF _ _ (⟨t366, t367, t368⟩ : S82) (Kd.R_reads' (Kd.R_mono (ok' := (fun k_ => some k_ ≠ (.slice Ao18 t347.length co18 : Value).ownBlock ∧ k_ ≠ gb352)) (Kd.R_types (HO370.out) BK352.out (by decide)) (fun k_ hk => ⟨hk.1.1.1.1.2, hk.2⟩))).2.1 (Kd.R_F (Kd.R_mono (ok' := (fun k_ => some k_ ≠ (.slice Ao18 t347.length co18 : Value).ownBlock ∧ k_ ≠ gb352)) (Kd.R_types (HO370.out) BK352.out (by decide)) (fun k_ hk => ⟨hk.1.1.1.1.2, hk.2⟩))))) (Reps.c3 (show Kd.FK k82 _ _ (⟨t371, t372, t373⟩ : S82) [.int .i64 t371, .int .i64 t372, .slice Ao29 t373.length co29] from (k82_mkF _ _ (⟨t371, t372, t373⟩ : S82) (Kd.R_reads' (Kd.R_mono (ok' := (fun k_ => some k_ ≠ (.slice Ao18 t347.length co18 : Value).ownBlock ∧ k_ ≠ gb352)) (Kd.R_types (HO375.out) BK352.out (by decide)) (fun k_ hk => ⟨hk.1.1.1.1.2, hk.2⟩))).2.1 (Kd.R_F (Kd.R_mono (ok' := (fun k_ => some k_ ≠ (.slice Ao18 t347.length co18 : Value).ownBlock ∧ k_ ≠ gb352)) (Kd.R_types (HO375.out) BK352.out (by decide)) (fun k_ hk => ⟨hk.1.1.1.1.2, hk.2⟩))))) (Reps.none _ _))))))
 intro v377 w30 ho31 hb hg_ hnew_
 clear hg_ hnew_
 (first | rw [← Ny376.out] at ho31 | (simp only [Int.reduceToNat] at ho31; rw [← Ny376.out] at ho31))
 have n0_ := Zam (Kd.R_below (by (with_reducible repeat (first | apply ZrA | apply ZrW | apply ZrD)); exact HO349.out) hb)
 have n1_ := Zam (Kd.N_lower ho31 (below_size (by repeat (first | (with_reducible first | exact HB.out | apply ZhA | apply ZhW | apply ZhD | refine ZhS ?_ GE352.out) | exact HB.out))))
 have n2_ := Zam (ZbB (g := gb352) (o := .cells #[.int .i64 t345, .int .i64 t346, .slice Ao18 t347.length co18] 82 (0, 0)) (by (with_reducible repeat (first | refine ZbW ?_ _ | refine ZbD ?_ | refine ZbA ?_ _)); exact BK352.out) hb)
 have n3_ := Zam (ZbS (by repeat (first | (with_reducible first | exact HB.out | apply ZhA | apply ZhW | apply ZhD | refine ZhS ?_ GE352.out) | exact HB.out)) hb)
 clear HO349
 clear BK352
 clear HB
 clear HO360
 clear HO365
 clear HO370
 clear HO375
 have HO349 := n0_
 have HO378 := n1_
 have BK352 := n2_
 have HB := n3_
 clear n0_ n1_ n2_ n3_
 clear hb ho31
 refine hK.out _ _ ⟨(ZbC BK352.out 0).trans rfl, (ZbC BK352.out 1).trans rfl, (ZbC BK352.out 2).trans rfl⟩ (fun hHeld => ?_)
 clear hK K
 refine norm_ (a' := ?_) ?_ ?_
 rotate_left
 ·show Act.put _ (some 61) _ = _
  simp only [Act.put, Zl1, Zl2, Zl3, i64_w, i32_w]
  rfl
 refine pure_ (i := 18) (N := some 8) (v := ?_) (a' := ?_) #[true, true, true, true, true, true, true, true, true, true, true, true, true, true, true, true, true, true, true] rfl rfl (any_of HT_.out (by kernel_rfl)) (fun _ _ _ h => h) (Or.inl ⟨by rfl, ?_⟩) ?_ ?_
 rotate_left
 ·intro w'
  go_simp
  with_reducible rfl
 rotate_left
 ·simp only [Act.put, Zl1, Zl2, Zl3, i64_w, i32_w]
  rfl
 refine done_ (done_of HT_.out (by kernel_rfl)) ?_
 try go_wp2
 have n0_ := Zam (ZrD HO349.out)
 have n1_ := Zam (Kd.N_drew HO378.out)
 have n2_ := Zam (ZbD BK352.out)
 have n3_ := Zam (ZhD HB.out)
 clear HO349
 clear HO378
 clear BK352
 clear HB
 have HO349 := n0_
 have HO378 := n1_
 have BK352 := n2_
 have HB := n3_
 clear n0_ n1_ n2_ n3_
 refine start_ (n := 19) (S := fun w' => w'.cell? ⟨gb352, 0, none⟩ = some (.int .i64 t345) ∧ w'.cell? ⟨gb352, 1, none⟩ = some (.int .i64 t346) ∧ w'.cell? ⟨gb352, 2, none⟩ = some (.slice Ao18 t347.length co18)) (ds := []) #[false, false, false, false, false, false, false, false, false, false, false, false, false, false, false, false, false, false, false] (by kernel_rfl) rfl rfl ⟨(ZbC BK352.out 0).trans rfl, (ZbC BK352.out 1).trans rfl, (ZbC BK352.out 2).trans rfl⟩ (fun hHeld => ?_); refine with_tabW laws_FnSizes.tab8 laws_FnSizes.bits8 (fun HT_ HW_ => ?_)
 generalize w30.drew = w32 at HO349 HO378 BK352 HB hHeld ⊢
 refine pure_ (i := 5) (N := some 67) (v := ?_) (a' := ?_) #[false, false, false, false, false, true, false, false, false, false, false, false, false, false, false, false, false, false, false] rfl rfl (any_of HT_.out (by kernel_rfl)) (fun _ _ _ h => h) (Or.inl ⟨by rfl, ?_⟩) ?_ ?_
 rotate_left
 ·intro w'
  go_simp
  with_reducible rfl
 rotate_left
 ·simp only [Act.put, Zl1, Zl2, Zl3, i64_w, i32_w]
  rfl
 refine pure_ (i := 6) (N := some 68) (v := ?_) (a' := ?_) #[false, false, false, false, false, true, true, false, false, false, false, false, false, false, false, false, false, false, false] rfl rfl (any_of HT_.out (by kernel_rfl)) (fun _ _ _ h => h) (Or.inl ⟨by rfl, ?_⟩) ?_ ?_
 rotate_left
 ·intro w'
  go_simp
  with_reducible rfl
 rotate_left
 ·simp only [Act.put, Zl1, Zl2, Zl3, i64_w, i32_w]
  rfl
 refine pure_ (i := 9) (N := some 71) (v := ?_) (a' := ?_) #[false, false, false, false, false, true, true, false, false, true, false, false, false, false, false, false, false, false, false] rfl rfl (any_of HT_.out (by kernel_rfl)) (fun _ _ _ h => h) (Or.inl ⟨by rfl, ?_⟩) ?_ ?_
 rotate_left
 ·intro w'
  go_simp
  with_reducible rfl
 rotate_left
 ·simp only [Act.put, Zl1, Zl2, Zl3, i64_w, i32_w]
  rfl
 refine pure_ (i := 13) (N := some 75) (v := ?_) (a' := ?_) #[false, false, false, false, false, true, true, false, false, true, false, false, false, true, false, false, false, false, false] rfl rfl (any_of HT_.out (by kernel_rfl)) (fun _ _ _ h => h) (Or.inl ⟨by rfl, ?_⟩) ?_ ?_
 rotate_left
 ·intro w'
  go_simp
  with_reducible rfl
 rotate_left
 ·simp only [Act.put, Zl1, Zl2, Zl3, i64_w, i32_w]
  rfl
 refine take_ (i := 0) (N := some 62) (v := ?_) (a' := ?_) #[true, false, false, false, false, true, true, false, false, true, false, false, false, true, false, false, false, false, false] rfl rfl (take_ofW HT_.out HW_.out (by kernel_rfl)) (fun _ _ _ h => h) (Or.inl ⟨by rfl, ?_⟩) hHeld ?_ ?_
 rotate_left
 ·rintro w' ⟨s0, s1, s2⟩
  go_simp
  with_reducible rfl
 rotate_left
 ·simp only [Act.put, Zl1, Zl2, Zl3, i64_w, i32_w]
  rfl
 refine take_ (i := 2) (N := some 64) (v := ?_) (a' := ?_) #[true, false, true, false, false, true, true, false, false, true, false, false, false, true, false, false, false, false, false] rfl rfl (take_ofW HT_.out HW_.out (by kernel_rfl)) (fun _ _ _ h => h) (Or.inl ⟨by rfl, ?_⟩) hHeld ?_ ?_
 rotate_left
 ·rintro w' ⟨s0, s1, s2⟩
  go_simp
  with_reducible rfl
 rotate_left
 ·simp only [Act.put, Zl1, Zl2, Zl3, i64_w, i32_w]
  rfl
 refine take_ (i := 4) (N := some 66) (v := ?_) (a' := ?_) #[true, false, true, false, true, true, true, false, false, true, false, false, false, true, false, false, false, false, false] rfl rfl (take_ofW HT_.out HW_.out (by kernel_rfl)) (fun _ _ _ h => h) (Or.inl ⟨by rfl, ?_⟩) hHeld ?_ ?_
 rotate_left
 ·rintro w' ⟨s0, s1, s2⟩
  go_simp
  with_reducible rfl
 rotate_left
 ·simp only [Act.put, Zl1, Zl2, Zl3, i64_w, i32_w]
  rfl
 refine take_ (i := 8) (N := some 70) (v := ?_) (a' := ?_) #[true, false, true, false, true, true, true, false, true, true, false, false, false, true, false, false, false, false, false] rfl rfl (take_ofW HT_.out HW_.out (by kernel_rfl)) (fun _ _ _ h => h) (Or.inl ⟨by rfl, ?_⟩) hHeld ?_ ?_
 rotate_left
 ·rintro w' ⟨s0, s1, s2⟩
  go_simp
  with_reducible rfl
 rotate_left
 ·simp only [Act.put, Zl1, Zl2, Zl3, i64_w, i32_w]
  rfl
 refine take_ (i := 10) (N := some 72) (v := ?_) (a' := ?_) #[true, false, true, false, true, true, true, false, true, true, true, false, false, true, false, false, false, false, false] rfl rfl (take_ofW HT_.out HW_.out (by kernel_rfl)) (fun _ _ _ h => h) (Or.inl ⟨by rfl, ?_⟩) hHeld ?_ ?_
 rotate_left
 ·rintro w' ⟨s0, s1, s2⟩
  go_simp
  with_reducible rfl
 rotate_left
 ·simp only [Act.put, Zl1, Zl2, Zl3, i64_w, i32_w]
  rfl
 refine pure_ (i := 11) (N := some 73) (v := ?_) (a' := ?_) #[true, false, true, false, true, true, true, false, true, true, true, true, false, true, false, false, false, false, false] rfl rfl (any_of HT_.out (by kernel_rfl)) (fun _ _ _ h => h) (Or.inl ⟨by rfl, ?_⟩) ?_ ?_
 rotate_left
 ·intro w'
  go_simp
  with_reducible rfl
 rotate_left
 ·simp only [Act.put, Zl1, Zl2, Zl3, i64_w, i32_w]
  rfl
 refine pure_ (i := 12) (N := some 74) (v := ?_) (a' := ?_) #[true, false, true, false, true, true, true, false, true, true, true, true, true, true, false, false, false, false, false] rfl rfl (any_of HT_.out (by kernel_rfl)) (fun _ _ _ h => h) (Or.inl ⟨by rfl, ?_⟩) ?_ ?_
 rotate_left
 ·intro w'
  go_simp
  with_reducible rfl
 rotate_left
 ·simp only [Act.put, Zl1, Zl2, Zl3, i64_w, i32_w]
  rfl
 refine take_ (i := 14) (N := some 76) (v := ?_) (a' := ?_) #[true, false, true, false, true, true, true, false, true, true, true, true, true, true, true, false, false, false, false] rfl rfl (take_ofW HT_.out HW_.out (by kernel_rfl)) (fun _ _ _ h => h) (Or.inl ⟨by rfl, ?_⟩) hHeld ?_ ?_
 rotate_left
 ·rintro w' ⟨s0, s1, s2⟩
  go_simp
  with_reducible rfl
 rotate_left
 ·simp only [Act.put, Zl1, Zl2, Zl3, i64_w, i32_w]
  rfl
 refine pure_ (i := 15) (N := some 77) (v := ?_) (a' := ?_) #[true, false, true, false, true, true, true, false, true, true, true, true, true, true, true, true, false, false, false] rfl rfl (any_of HT_.out (by kernel_rfl)) (fun _ _ _ h => h) (Or.inl ⟨by rfl, ?_⟩) ?_ ?_
 rotate_left
 ·intro w'
  go_simp
  with_reducible rfl
 rotate_left
 ·simp only [Act.put, Zl1, Zl2, Zl3, i64_w, i32_w]
  rfl
 refine one_ (i := 1) (N := some 63) #[true, true, true, false, true, true, true, false, true, true, true, true, true, true, true, true, false, false, false] rfl rfl (one_of HT_.out (by kernel_rfl)) (by decide) (fun K hK => ?_)
 refine goes_ Try.func63 (by kernel_rfl) rfl #[.agg #[.int .i64 t345, .int .i64 t346, .slice Ao18 t347.length co18], .int .i64 2] (by rfl) rfl rfl (by (try simp only [Zm1, Zm2, Zm3]); first | done | rfl | (simp only [ZlL, ZlT]; rfl)) ?_
 with_reducible refine (spec_Shrink.calls k t345 t346 _ _ t347 2 t379 t380 t381 _ ?side1 ?side2 A11.out).mono ?_
 (case side1 => repeat (first | exact (Kd.R_reads' HO349.out).2.2 | (with_reducible refine Kd.C_alloc ?_ _) | (with_reducible refine Kd.C_drewN ?_ _) | (with_reducible refine Kd.C_drew ?_)))
 (case side2 => exact (Kd.R_reads' HO349.out).2.1)
 rintro e w33 ⟨v382, rfl, ho0, hb⟩
 refine ⟨_, rfl, ?_⟩
 have n0_ := Zam (Kd.R_elder' (by (with_reducible repeat (first | apply ZrA | apply ZrW | apply ZrD)); exact HO349.out) (Kd.R_base ho0) hb)
 have n1_ := Zam (Kd.N_elder' (by (with_reducible repeat (first | apply Kd.N_alloc | apply Kd.N_drewN | apply Kd.N_drew)); exact HO378.out) (Kd.R_base ho0) hb)
 have n2_ := Zam (Kd.R_lower (Kd.R_new' ho0 (Kd.R_lt (by (with_reducible repeat (first | apply ZrA | apply ZrW | apply ZrD)); exact HO349.out))) (below_size (by repeat (first | (with_reducible first | exact HB.out | apply ZhA | apply ZhW | apply ZhD | refine ZhS ?_ GE352.out) | exact HB.out))))
 have n3_ := Zam (ZbB (g := gb352) (o := .cells #[.int .i64 t345, .int .i64 t346, .slice Ao18 t347.length co18] 82 (0, 0)) (by (with_reducible repeat (first | refine ZbW ?_ _ | refine ZbD ?_ | refine ZbA ?_ _)); exact BK352.out) hb)
 have n4_ := Zam (ZbS (by repeat (first | (with_reducible first | exact HB.out | apply ZhA | apply ZhW | apply ZhD | refine ZhS ?_ GE352.out) | exact HB.out)) hb)
 clear HO349
 clear HO378
 clear BK352
 clear HB
 have HO349 := n0_
 have HO378 := n1_
 have HO383 := n2_
 have BK352 := n3_
 have HB := n4_
 clear n0_ n1_ n2_ n3_ n4_
 (try clear hb)
 (try clear hb2)
 (try clear hk)
 (try clear hi)
 (try clear ho0)
 refine hK.out _ _ ⟨(ZbC BK352.out 0).trans rfl, (ZbC BK352.out 1).trans rfl, (ZbC BK352.out 2).trans rfl⟩ (fun hHeld => ?_)
 clear hK K
 refine norm_ (a' := ?_) ?_ ?_
 rotate_left
 ·show Act.put _ (some 63) _ = _
  simp only [Act.put, Zl1, Zl2, Zl3, i64_w, i32_w]
  rfl
 refine one_ (i := 3) (N := some 65) #[true, true, true, true, true, true, true, false, true, true, true, true, true, true, true, true, false, false, false] rfl rfl (one_of HT_.out (by kernel_rfl)) (by decide) (fun K hK => ?_)
 refine goes_ Try.func63 (by kernel_rfl) rfl #[.agg #[.int .i64 t345, .int .i64 t346, .slice Ao18 t347.length co18], .int .i64 4] (by rfl) rfl rfl (by (try simp only [Zm1, Zm2, Zm3]); first | done | rfl | (simp only [ZlL, ZlT]; rfl)) ?_
 with_reducible refine (spec_Shrink.calls k t345 t346 _ _ t347 4 t384 t385 t386 _ ?side1 ?side2 A12.out).mono ?_
 (case side1 => repeat (first | exact (Kd.R_reads' HO349.out).2.2 | (with_reducible refine Kd.C_alloc ?_ _) | (with_reducible refine Kd.C_drewN ?_ _) | (with_reducible refine Kd.C_drew ?_)))
 (case side2 => exact (Kd.R_reads' HO349.out).2.1)
 rintro e w34 ⟨v387, rfl, ho0, hb⟩
 refine ⟨_, rfl, ?_⟩
 have n0_ := Zam (Kd.R_elder' (by (with_reducible repeat (first | apply ZrA | apply ZrW | apply ZrD)); exact HO349.out) (Kd.R_base ho0) hb)
 have n1_ := Zam (Kd.N_elder' (by (with_reducible repeat (first | apply Kd.N_alloc | apply Kd.N_drewN | apply Kd.N_drew)); exact HO378.out) (Kd.R_base ho0) hb)
 have n2_ := Zam (Kd.R_elder' (by (with_reducible repeat (first | apply ZrA | apply ZrW | apply ZrD)); exact HO383.out) (Kd.R_base ho0) hb)
 have n3_ := Zam (Kd.R_lower (Kd.R_new' (Kd.R_new' ho0 (Kd.R_lt (by (with_reducible repeat (first | apply ZrA | apply ZrW | apply ZrD)); exact HO349.out))) (Kd.R_lt (by (with_reducible repeat (first | apply ZrA | apply ZrW | apply ZrD)); exact HO383.out))) (below_size (by repeat (first | (with_reducible first | exact HB.out | apply ZhA | apply ZhW | apply ZhD | refine ZhS ?_ GE352.out) | exact HB.out))))
 have n4_ := Zam (ZbB (g := gb352) (o := .cells #[.int .i64 t345, .int .i64 t346, .slice Ao18 t347.length co18] 82 (0, 0)) (by (with_reducible repeat (first | refine ZbW ?_ _ | refine ZbD ?_ | refine ZbA ?_ _)); exact BK352.out) hb)
 have n5_ := Zam (ZbS (by repeat (first | (with_reducible first | exact HB.out | apply ZhA | apply ZhW | apply ZhD | refine ZhS ?_ GE352.out) | exact HB.out)) hb)
 clear HO349
 clear HO378
 clear HO383
 clear BK352
 clear HB
 have HO349 := n0_
 have HO378 := n1_
 have HO383 := n2_
 have HO388 := n3_
 have BK352 := n4_
 have HB := n5_
 clear n0_ n1_ n2_ n3_ n4_ n5_
 (try clear hb)
 (try clear hb2)
 (try clear hk)
 (try clear hi)
 (try clear ho0)
 refine hK.out _ _ ⟨(ZbC BK352.out 0).trans rfl, (ZbC BK352.out 1).trans rfl, (ZbC BK352.out 2).trans rfl⟩ (fun hHeld => ?_)
 clear hK K
 refine norm_ (a' := ?_) ?_ ?_
 rotate_left
 ·show Act.put _ (some 65) _ = _
  simp only [Act.put, Zl1, Zl2, Zl3, i64_w, i32_w]
  rfl
 refine one_ (i := 7) (N := some 69) #[true, true, true, true, true, true, true, true, true, true, true, true, true, true, true, true, false, false, false] rfl rfl (one_of HT_.out (by kernel_rfl)) (by decide) (fun K hK => ?_)
 refine goes_ Try.func64 (by kernel_rfl) rfl #[.agg #[.int .i64 t345, .int .i64 t346, .slice Ao18 t347.length co18], .int .i64 t350, .int .i64 t351] (by rfl) rfl rfl (by (try simp only [Zm1, Zm2, Zm3]); first | done | rfl | (simp only [ZlL, ZlT]; rfl)) ?_
 with_reducible refine (spec_Resize.calls k t345 t346 _ _ t347 t350 t351 t389 t390 t391 _ ?side1 ?side2 A13.out).mono ?_
 (case side1 => repeat (first | exact (Kd.R_reads' HO349.out).2.2 | (with_reducible refine Kd.C_alloc ?_ _) | (with_reducible refine Kd.C_drewN ?_ _) | (with_reducible refine Kd.C_drew ?_)))
 (case side2 => exact (Kd.R_reads' HO349.out).2.1)
 rintro e w35 ⟨v392, rfl, ho0, hb⟩
 refine ⟨_, rfl, ?_⟩
 have n0_ := Zam (Kd.R_elder' (by (with_reducible repeat (first | apply ZrA | apply ZrW | apply ZrD)); exact HO349.out) (Kd.R_base ho0) hb)
 have n1_ := Zam (Kd.N_elder' (by (with_reducible repeat (first | apply Kd.N_alloc | apply Kd.N_drewN | apply Kd.N_drew)); exact HO378.out) (Kd.R_base ho0) hb)
 have n2_ := Zam (Kd.R_elder' (by (with_reducible repeat (first | apply ZrA | apply ZrW | apply ZrD)); exact HO383.out) (Kd.R_base ho0) hb)
 have n3_ := Zam (Kd.R_elder' (by (with_reducible repeat (first | apply ZrA | apply ZrW | apply ZrD)); exact HO388.out) (Kd.R_base ho0) hb)
 have n4_ := Zam (Kd.R_lower (Kd.R_new' (Kd.R_new' (Kd.R_new' ho0 (Kd.R_lt (by (with_reducible repeat (first | apply ZrA | apply ZrW | apply ZrD)); exact HO349.out))) (Kd.R_lt (by (with_reducible repeat (first | apply ZrA | apply ZrW | apply ZrD)); exact HO383.out))) (Kd.R_lt (by (with_reducible repeat (first | apply ZrA | apply ZrW | apply ZrD)); exact HO388.out))) (below_size (by repeat (first | (with_reducible first | exact HB.out | apply ZhA | apply ZhW | apply ZhD | refine ZhS ?_ GE352.out) | exact HB.out))))
 have n5_ := Zam (ZbB (g := gb352) (o := .cells #[.int .i64 t345, .int .i64 t346, .slice Ao18 t347.length co18] 82 (0, 0)) (by (with_reducible repeat (first | refine ZbW ?_ _ | refine ZbD ?_ | refine ZbA ?_ _)); exact BK352.out) hb)
 have n6_ := Zam (ZbS (by repeat (first | (with_reducible first | exact HB.out | apply ZhA | apply ZhW | apply ZhD | refine ZhS ?_ GE352.out) | exact HB.out)) hb)
 clear HO349
 clear HO378
 clear HO383
 clear HO388
 clear BK352
 clear HB
 have HO349 := n0_
 have HO378 := n1_
 have HO383 := n2_
 have HO388 := n3_
 have HO393 := n4_
 have BK352 := n5_
 have HB := n6_
 clear n0_ n1_ n2_ n3_ n4_ n5_ n6_
 (try clear hb)
 (try clear hb2)
 (try clear hk)
 (try clear hi)
 (try clear ho0)
 refine hK.out _ _ ⟨(ZbC BK352.out 0).trans rfl, (ZbC BK352.out 1).trans rfl, (ZbC BK352.out 2).trans rfl⟩ (fun hHeld => ?_)
 clear hK K
 refine norm_ (a' := ?_) ?_ ?_
 rotate_left
 ·show Act.put _ (some 69) _ = _
  simp only [Act.put, Zl1, Zl2, Zl3, i64_w, i32_w]
  rfl
 refine one_ (i := 16) (N := some 78) #[true, true, true, true, true, true, true, true, true, true, true, true, true, true, true, true, true, false, false] rfl rfl (one_of HT_.out (by kernel_rfl)) (by decide) (fun K hK => ?_)
 refine goes_ Try.func65 (by kernel_rfl) rfl #[.agg #[.int .i64 t345, .int .i64 t346, .slice Ao18 t347.length co18], .int .i64 (wrap64 ((wrap64 (2 * t345)) - 1)), .int .i64 (wrap64 (2 * t346))] (by rfl) rfl rfl (by (try simp only [Zm1, Zm2, Zm3]); first | done | rfl | (simp only [ZlL, ZlT]; rfl)) ?_
 with_reducible refine (spec_Grow.calls k t345 t346 _ _ t347 (wrap64 ((wrap64 (2 * t345)) - 1)) (wrap64 (2 * t346)) t394 t395 t396 _ ?side1 ?side2 A14.out).mono ?_
 (case side1 => repeat (first | exact (Kd.R_reads' HO349.out).2.2 | (with_reducible refine Kd.C_alloc ?_ _) | (with_reducible refine Kd.C_drewN ?_ _) | (with_reducible refine Kd.C_drew ?_)))
 (case side2 => exact (Kd.R_reads' HO349.out).2.1)
 rintro e w36 ⟨v397, rfl, ho0, hb⟩
 refine ⟨_, rfl, ?_⟩
 have n0_ := Zam (Kd.R_elder' (by (with_reducible repeat (first | apply ZrA | apply ZrW | apply ZrD)); exact HO349.out) (Kd.R_base ho0) hb)
 have n1_ := Zam (Kd.N_elder' (by (with_reducible repeat (first | apply Kd.N_alloc | apply Kd.N_drewN | apply Kd.N_drew)); exact HO378.out) (Kd.R_base ho0) hb)
 have n2_ := Zam (Kd.R_elder' (by (with_reducible repeat (first | apply ZrA | apply ZrW | apply ZrD)); exact HO383.out) (Kd.R_base ho0) hb)
 have n3_ := Zam (Kd.R_elder' (by (with_reducible repeat (first | apply ZrA | apply ZrW | apply ZrD)); exact HO388.out) (Kd.R_base ho0) hb)
 have n4_ := Zam (Kd.R_elder' (by (with_reducible repeat (first | apply ZrA | apply ZrW | apply ZrD)); exact HO393.out) (Kd.R_base ho0) hb)
 have n5_ := Zam (Kd.R_lower (Kd.R_new' (Kd.R_new' (Kd.R_new' (Kd.R_new' ho0 (Kd.R_lt (by (with_reducible repeat (first | apply ZrA | apply ZrW | apply ZrD)); exact HO349.out))) (Kd.R_lt (by (with_reducible repeat (first | apply ZrA | apply ZrW | apply ZrD)); exact HO383.out))) (Kd.R_lt (by (with_reducible repeat (first | apply ZrA | apply ZrW | apply ZrD)); exact HO388.out))) (Kd.R_lt (by (with_reducible repeat (first | apply ZrA | apply ZrW | apply ZrD)); exact HO393.out))) (below_size (by repeat (first | (with_reducible first | exact HB.out | apply ZhA | apply ZhW | apply ZhD | refine ZhS ?_ GE352.out) | exact HB.out))))
 have n6_ := Zam (ZbB (g := gb352) (o := .cells #[.int .i64 t345, .int .i64 t346, .slice Ao18 t347.length co18] 82 (0, 0)) (by (with_reducible repeat (first | refine ZbW ?_ _ | refine ZbD ?_ | refine ZbA ?_ _)); exact BK352.out) hb)
 have n7_ := Zam (ZbS (by repeat (first | (with_reducible first | exact HB.out | apply ZhA | apply ZhW | apply ZhD | refine ZhS ?_ GE352.out) | exact HB.out)) hb)
 clear HO349
 clear HO378
 clear HO383
 clear HO388
 clear HO393
 clear BK352
 clear HB
 have HO349 := n0_
 have HO378 := n1_
 have HO383 := n2_
 have HO388 := n3_
 have HO393 := n4_
 have HO398 := n5_
 have BK352 := n6_
 have HB := n7_
 clear n0_ n1_ n2_ n3_ n4_ n5_ n6_ n7_
 (try clear hb)
 (try clear hb2)
 (try clear hk)
 (try clear hi)
 (try clear ho0)
 obtain ⟨Ao37, co37, eo37⟩ := Kd.R_slice HO383.out
 (first | subst eo37 | (injection eo37 with f1_ f2_ f3_; have f4_ := f1_.symm; have f5_ := f3_.symm; clear f1_ f2_ f3_; subst f4_; subst f5_))
 obtain ⟨Ao38, co38, eo38⟩ := Kd.R_slice HO388.out
 (first | subst eo38 | (injection eo38 with f1_ f2_ f3_; have f4_ := f1_.symm; have f5_ := f3_.symm; clear f1_ f2_ f3_; subst f4_; subst f5_))
 obtain ⟨Ao39, co39, eo39⟩ := Kd.R_slice HO393.out
 (first | subst eo39 | (injection eo39 with f1_ f2_ f3_; have f4_ := f1_.symm; have f5_ := f3_.symm; clear f1_ f2_ f3_; subst f4_; subst f5_))
 obtain ⟨Ao40, co40, eo40⟩ := Kd.R_slice HO398.out
 (first | subst eo40 | (injection eo40 with f1_ f2_ f3_; have f4_ := f1_.symm; have f5_ := f3_.symm; clear f1_ f2_ f3_; subst f4_; subst f5_))
 refine hK.out _ _ ⟨(ZbC BK352.out 0).trans rfl, (ZbC BK352.out 1).trans rfl, (ZbC BK352.out 2).trans rfl⟩ (fun hHeld => ?_)
 clear hK K
 refine norm_ (a' := ?_) ?_ ?_
 rotate_left
 ·show Act.put _ (some 78) _ = _
  simp only [Act.put, Zl1, Zl2, Zl3, i64_w, i32_w]
  rfl
 refine one_ (i := 17) (N := some 79) #[true, true, true, true, true, true, true, true, true, true, true, true, true, true, true, true, true, true, false] rfl rfl (one_of HT_.out (by kernel_rfl)) (by decide) (fun K hK => ?_)
 refine Kd.N_lit_step k82 _ 82 ?hg (N' := 79) ?hd (xs := ([(⟨t379, t380, t381⟩ : S82), (⟨t384, t385, t386⟩ : S82), (⟨t389, t390, t391⟩ : S82), (⟨t394, t395, t396⟩ : S82)] : List (S82))) (inner := [.int .i64 t379, .int .i64 t380, .slice Ao37 t381.length co37, .int .i64 t384, .int .i64 t385, .slice Ao38 t386.length co38, .int .i64 t389, .int .i64 t390, .slice Ao39 t391.length co39, .int .i64 t394, .int .i64 t395, .slice Ao40 t396.length co40]) (ok := (fun k_ => some k_ ≠ (.slice Ao18 t347.length co18 : Value).ownBlock ∧ some k_ ≠ (v377 : Value).ownBlock ∧ k_ ≠ gb352)) (okp := (fun k_ => some k_ ≠ (.slice Ao18 t347.length co18 : Value).ownBlock ∧ some k_ ≠ (v377 : Value).ownBlock ∧ k_ ≠ gb352)) ?hr ?hp (fun _ hk => hk) ((show ∀ k_, w36.heap.size ≤ k_ → (fun k_ => some k_ ≠ (.slice Ao18 t347.length co18 : Value).ownBlock ∧ some k_ ≠ (v377 : Value).ownBlock ∧ k_ ≠ gb352) k_ from fun k_ hk => ⟨Kd.fresh' (Kd.R_lt (by (with_reducible repeat (first | apply ZrA | apply ZrW | apply ZrD)); exact HO349.out)) k_ hk, Kd.fresh' (Kd.N_lt (by (with_reducible repeat (first | apply Kd.N_alloc | apply Kd.N_drewN | apply Kd.N_drew)); exact HO378.out)) k_ hk, Kd.freshB (g := gb352) (o := .cells #[.int .i64 t345, .int .i64 t346, .slice Ao18 t347.length co18] 82 (0, 0)) (by (with_reducible repeat (first | refine ZbW ?_ _ | refine ZbD ?_ | refine ZbA ?_ _)); exact BK352.out) k_ hk⟩) _ (Nat.le_refl _)) (Below.refl _ _) (Nat.le_refl _) (by simp) ?_; (case hd => rfl); (case hg => rfl); (case hr => first | (go_simp; done) | (go_simp; rfl)); (case hp => exact (Reps.c3 (show Kd.FK k82 _ _ (⟨t379, t380, t381⟩ : S82) [.int .i64 t379, .int .i64 t380, .slice Ao37 t381.length co37] from (k82_mkF _ _ (⟨t379, t380, t381⟩ : S82) (Kd.R_reads' (Kd.R_mono (ok' := (fun k_ => some k_ ≠ (.slice Ao18 t347.length co18 : Value).ownBlock ∧ some k_ ≠ (v377 : Value).ownBlock ∧ k_ ≠ gb352)) (Kd.R_types (Kd.R_apart' (HO383.out) (Kd.N_typed HO378.out) (by decide)) BK352.out (by decide)) (fun k_ hk => ⟨hk.1.1.1.1.1.2, ⟨hk.1.2, hk.2⟩⟩))).2.1 (Kd.R_F (Kd.R_mono (ok' := (fun k_ => some k_ ≠ (.slice Ao18 t347.length co18 : Value).ownBlock ∧ some k_ ≠ (v377 : Value).ownBlock ∧ k_ ≠ gb352)) (Kd.R_types (Kd.R_apart' (HO383.out) (Kd.N_typed HO378.out) (by decide)) BK352.out (by decide)) (fun k_ hk => ⟨hk.1.1.1.1.1.2, ⟨hk.1.2, hk.2⟩⟩))))) (Reps.c3 (show Kd.FK k82 _ _ (⟨t384, t385, t386⟩ : S82) [.int .i64 t384, .int .i64 t385, .slice Ao38 t386.length co38] from (k82_mkF _ _ (⟨t384, t385, t386⟩ : S82) (Kd.R_reads' (Kd.R_mono (ok' := (fun k_ => some k_ ≠ (.slice Ao18 t347.length co18 : Value).ownBlock ∧ some k_ ≠ (v377 : Value).ownBlock ∧ k_ ≠ gb352)) (Kd.R_types (Kd.R_apart' (HO388.out) (Kd.N_typed HO378.out) (by decide)) BK352.out (by decide)) (fun k_ hk => ⟨hk.1.1.1.1.1.2, ⟨hk.1.2, hk.2⟩⟩))).2.1 (Kd.R_F (Kd.R_mono (ok' := (fun k_ => some k_ ≠ (.slice Ao18 t347.length co18 : Value).ownBlock ∧ some k_ ≠ (v377 : Value).ownBlock ∧ k_ ≠ gb352)) (Kd.R_types (Kd.R_apart' (HO388.out) (Kd.N_typed HO378.out) (by decide)) BK352.out (by decide)) (fun k_ hk => ⟨hk.1.1.1.1.1.2, ⟨hk.1.2, hk.2⟩⟩))))) (Reps.c3 (show Kd.FK k82 _ _ (⟨t389, t390, t391⟩ : S82) [.int .i64 t389, .int .i64 t390, .slice Ao39 t391.length co39] from (k82_mkF _ _ (⟨t389, t390, t391⟩ : S82) (Kd.R_reads' (Kd.R_mono (ok' := (fun k_ => some k_ ≠ (.slice Ao18 t347.length co18 : Value).ownBlock ∧ some k_ ≠ (v377 : Value).ownBlock ∧ k_ ≠ gb352)) (Kd.R_types (Kd.R_apart' (HO393.out) (Kd.N_typed HO378.out) (by decide)) BK352.out (by decide)) (fun k_ hk => ⟨hk.1.1.1.1.1.2, ⟨hk.1.2, hk.2⟩⟩))).2.1 (Kd.R_F (Kd.R_mono (ok' := (fun k_ => some k_ ≠ (.slice Ao18 t347.length co18 : Value).ownBlock ∧ some k_ ≠ (v377 : Value).ownBlock ∧ k_ ≠ gb352)) (Kd.R_types (Kd.R_apart' (HO393.out) (Kd.N_typed HO378.out) (by decide)) BK352.out (by decide)) (fun k_ hk => ⟨hk.1.1.1.1.1.2, ⟨hk.1.2, hk.2⟩⟩))))) (Reps.c3 (show Kd.FK k82 _ _ (⟨t394, t395, t396⟩ : S82) [.int .i64 t394, .int .i64 t395, .slice Ao40 t396.length co40] from (k82_mkF _ _ (⟨t394, t395, t396⟩ : S82) (Kd.R_reads' (Kd.R_mono (ok' := (fun k_ => some k_ ≠ (.slice Ao18 t347.length co18 : Value).ownBlock ∧ some k_ ≠ (v377 : Value).ownBlock ∧ k_ ≠ gb352)) (Kd.R_types (Kd.R_apart' (HO398.out) (Kd.N_typed HO378.out) (by decide)) BK352.out (by decide)) (fun k_ hk => ⟨hk.1.1.1.1.1.2, ⟨hk.1.2, hk.2⟩⟩))).2.1 (Kd.R_F (Kd.R_mono (ok' := (fun k_ => some k_ ≠ (.slice Ao18 t347.length co18 : Value).ownBlock ∧ some k_ ≠ (v377 : Value).ownBlock ∧ k_ ≠ gb352)) (Kd.R_types (Kd.R_apart' (HO398.out) (Kd.N_typed HO378.out) (by decide)) BK352.out (by decide)) (fun k_ hk => ⟨hk.1.1.1.1.1.2, ⟨hk.1.2, hk.2⟩⟩))))) (Reps.none _ _))))))
 intro v400 w41 ho42 hb hg_ hnew_
 clear hg_ hnew_
 (first | rw [← Ny399.out] at ho42 | (simp only [Int.reduceToNat] at ho42; rw [← Ny399.out] at ho42))
 have n0_ := Zam (Kd.R_below (by (with_reducible repeat (first | apply ZrA | apply ZrW | apply ZrD)); exact HO349.out) hb)
 have n1_ := Zam (Kd.N_elder' (by (with_reducible repeat (first | apply Kd.N_alloc | apply Kd.N_drewN | apply Kd.N_drew)); exact HO378.out) (Kd.N_base ho42) hb)
 have n2_ := Zam (Kd.N_lower ho42 (below_size (by repeat (first | (with_reducible first | exact HB.out | apply ZhA | apply ZhW | apply ZhD | refine ZhS ?_ GE352.out) | exact HB.out))))
 have n3_ := Zam (ZbB (g := gb352) (o := .cells #[.int .i64 t345, .int .i64 t346, .slice Ao18 t347.length co18] 82 (0, 0)) (by (with_reducible repeat (first | refine ZbW ?_ _ | refine ZbD ?_ | refine ZbA ?_ _)); exact BK352.out) hb)
 have n4_ := Zam (ZbS (by repeat (first | (with_reducible first | exact HB.out | apply ZhA | apply ZhW | apply ZhD | refine ZhS ?_ GE352.out) | exact HB.out)) hb)
 clear HO349
 clear HO378
 clear BK352
 clear HB
 clear HO383
 clear HO388
 clear HO393
 clear HO398
 have HO349 := n0_
 have HO378 := n1_
 have HO401 := n2_
 have BK352 := n3_
 have HB := n4_
 clear n0_ n1_ n2_ n3_ n4_
 clear hb ho42
 refine hK.out _ _ ⟨(ZbC BK352.out 0).trans rfl, (ZbC BK352.out 1).trans rfl, (ZbC BK352.out 2).trans rfl⟩ (fun hHeld => ?_)
 clear hK K
 refine norm_ (a' := ?_) ?_ ?_
 rotate_left
 ·show Act.put _ (some 79) _ = _
  simp only [Act.put, Zl1, Zl2, Zl3, i64_w, i32_w]
  rfl
 refine pure_ (i := 18) (N := some 9) (v := ?_) (a' := ?_) #[true, true, true, true, true, true, true, true, true, true, true, true, true, true, true, true, true, true, true] rfl rfl (any_of HT_.out (by kernel_rfl)) (fun _ _ _ h => h) (Or.inl ⟨by rfl, ?_⟩) ?_ ?_
 rotate_left
 ·intro w'
  go_simp
  with_reducible rfl
 rotate_left
 ·simp only [Act.put, Zl1, Zl2, Zl3, i64_w, i32_w]
  rfl
 refine done_ (done_of HT_.out (by kernel_rfl)) ?_
 obtain ⟨Ao43, co43, eo43⟩ := Kd.N_slice HO378.out
 subst eo43
 try go_wp2
 go_loopg [82] k (fun kq v82 w' => ∃ (x82_1 : Int), v82 = .int .i64 x82_1 ∧ Aside0 (laws_FnSizes.l0 kq t354 t355 y399 y376 (y376.length : Int) x82_1 t345 t346 t347 = some r) ∧ Aside0 (kq ≤ k) ∧ Aside0 (Kd.N k82 82 w' w.heap.size (fun k_ => some k_ ≠ ((.slice Ao43 y376.length co43) : Value).ownBlock ∧ some k_ ≠ ((.slice Ao18 t347.length co18) : Value).ownBlock ∧ k_ ≠ gb352) v400 y399) ∧ Aside0 (Kd.N k82 82 w' w.heap.size (fun k_ => some k_ ≠ (v400 : Value).ownBlock ∧ some k_ ≠ ((.slice Ao18 t347.length co18) : Value).ownBlock ∧ k_ ≠ gb352) (.slice Ao43 y376.length co43) y376) ∧ Aside0 (Kd.R (Kd.int .i64) 3 w' w.heap.size (fun _ => True) (.slice Ao18 t347.length co18) t347) ∧ Aside0 (w'.heap[gb352]? = some (.cells #[.int .i64 t345, .int .i64 t346, (.slice Ao18 t347.length co18)] 82 (0, 0))) ∧ Aside0 (Below w.heap.size w w'))
 case atStart => exact ⟨(0), (by first | rfl | (simp; done) | (simp [*]; done)), H', ⟨Nat.le_refl _⟩, ⟨by (with_reducible repeat (first | apply Kd.N_alloc | apply Kd.N_drewN | apply Kd.N_drew)); exact Kd.N_mono HO401.out (fun _ hk => ⟨hk.2.1, ⟨hk.1, hk.2.2⟩⟩)⟩, ⟨by (with_reducible repeat (first | apply Kd.N_alloc | apply Kd.N_drewN | apply Kd.N_drew)); exact Kd.N_mono HO378.out (fun _ hk => ⟨hk.2, ⟨hk.1.1.1.1.1.1, hk.1.1.1.1.1.2⟩⟩)⟩, ⟨by (with_reducible repeat (first | apply ZrA | apply ZrW | apply ZrD)); exact Kd.R_mono HO349.out (fun _ hk => trivial)⟩, ⟨by (with_reducible repeat (first | refine ZbW ?_ _ | refine ZbD ?_ | refine ZbA ?_ _)); exact BK352.out⟩, ⟨by repeat (first | (with_reducible first | exact HB.out | apply ZhA | apply ZhW | apply ZhD | refine ZhS ?_ GE352.out) | exact HB.out)⟩⟩
 case round =>
  clear H'
  try clear p2
  try clear c3
  try clear c5
  try clear c6
  try clear p6
  obtain ⟨x82_1, rfl, HA, HK1, HO_9, HO_80, HO_353002, BK352, HB⟩ := hrel
  cases gk with
  | zero => exact absurd HA.out (by simp [laws_FnSizes.l0])
  | succ k1 =>
   have H := HA.out
   clear HA
   simp only [laws_FnSizes.l0] at H
   by_cases c44 : x82_1 < (y376.length : Int)
   rotate_left
   ·rw [if_neg c44] at H
    have c44b0 : decide (x82_1 < (y376.length : Int)) = false := decide_eq_false c44
    clear c44
    replace H := Zob.mp H
    obtain ⟨⟨t409, t410, t411⟩, A820, H⟩ := H
    replace H : ((laws_wInts.f k1 t411 t347).bind fun t414 => (some t414)) = some r := H
    have A82 := Zam A820
    clear A820
    replace H := Zob.mp H
    obtain ⟨t414, A830, H⟩ := H
    replace H : (some t414) = some r := H
    have A83 := Zam A830
    clear A830
    obtain rfl := Option.some.inj H
    try go_wp2
    have n0_ := Zam (Kd.N_drew HO_9.out)
    have n1_ := Zam (Kd.N_drew HO_80.out)
    have n2_ := Zam (ZrD HO_353002.out)
    have n3_ := Zam (ZbD BK352.out)
    have n4_ := Zam (ZhD HB.out)
    clear HO_9
    clear HO_80
    clear HO_353002
    clear BK352
    clear HB
    have HO_9 := n0_
    have HO_80 := n1_
    have HO_353002 := n2_
    have BK352 := n3_
    have HB := n4_
    clear n0_ n1_ n2_ n3_ n4_
    refine start_ (n := 11) (S := fun w' => w'.cell? ⟨gb352, 0, none⟩ = some (.int .i64 t345) ∧ w'.cell? ⟨gb352, 1, none⟩ = some (.int .i64 t346) ∧ w'.cell? ⟨gb352, 2, none⟩ = some (.slice Ao18 t347.length co18)) (ds := []) #[false, false, false, false, false, false, false, false, false, false, false] (by kernel_rfl) rfl rfl ⟨(ZbC BK352.out 0).trans rfl, (ZbC BK352.out 1).trans rfl, (ZbC BK352.out 2).trans rfl⟩ (fun hHeld => ?_); refine with_tabW laws_FnSizes.tab21 laws_FnSizes.bits21 (fun HT_ HW_ => ?_)
    generalize wr.drew = w84 at HO_9 HO_80 HO_353002 BK352 HB hHeld ⊢
    refine pure_ (i := 1) (N := some 134) (v := ?_) (a' := ?_) #[false, true, false, false, false, false, false, false, false, false, false] rfl rfl (any_of HT_.out (by kernel_rfl)) (fun _ _ _ h => h) (Or.inl ⟨by rfl, ?_⟩) ?_ ?_
    rotate_left
    ·intro w'
     go_simp
     with_reducible rfl
    rotate_left
    ·simp only [Act.put, Zl1, Zl2, Zl3, i64_w, i32_w]
     rfl
    refine pure_ (i := 3) (N := some 136) (v := ?_) (a' := ?_) #[false, true, false, true, false, false, false, false, false, false, false] rfl rfl (any_of HT_.out (by kernel_rfl)) (fun _ _ _ h => h) (Or.inl ⟨by rfl, ?_⟩) ?_ ?_
    rotate_left
    ·intro w'
     go_simp
     with_reducible rfl
    rotate_left
    ·simp only [Act.put, Zl1, Zl2, Zl3, i64_w, i32_w]
     rfl
    refine pure_ (i := 7) (N := some 140) (v := ?_) (a' := ?_) #[false, true, false, true, false, false, false, true, false, false, false] rfl rfl (any_of HT_.out (by kernel_rfl)) (fun _ _ _ h => h) (Or.inl ⟨by rfl, ?_⟩) ?_ ?_
    rotate_left
    ·intro w'
     go_simp
     with_reducible rfl
    rotate_left
    ·simp only [Act.put, Zl1, Zl2, Zl3, i64_w, i32_w]
     rfl
    refine take_ (i := 0) (N := some 133) (v := ?_) (a' := ?_) #[true, true, false, true, false, false, false, true, false, false, false] rfl rfl (take_ofW HT_.out HW_.out (by kernel_rfl)) (fun _ _ _ h => h) (Or.inl ⟨by rfl, ?_⟩) hHeld ?_ ?_
    rotate_left
    ·rintro w' ⟨s0, s1, s2⟩
     go_simp
     with_reducible rfl
    rotate_left
    ·simp only [Act.put, Zl1, Zl2, Zl3, i64_w, i32_w]
     rfl
    refine take_ (i := 2) (N := some 135) (v := ?_) (a' := ?_) #[true, true, true, true, false, false, false, true, false, false, false] rfl rfl (take_ofW HT_.out HW_.out (by kernel_rfl)) (fun _ _ _ h => h) (Or.inl ⟨by rfl, ?_⟩) hHeld ?_ ?_
    rotate_left
    ·rintro w' ⟨s0, s1, s2⟩
     go_simp
     with_reducible rfl
    rotate_left
    ·simp only [Act.put, Zl1, Zl2, Zl3, i64_w, i32_w]
     rfl
    refine take_ (i := 4) (N := some 137) (v := ?_) (a' := ?_) #[true, true, true, true, true, false, false, true, false, false, false] rfl rfl (take_ofW HT_.out HW_.out (by kernel_rfl)) (fun _ _ _ h => h) (Or.inl ⟨by rfl, ?_⟩) hHeld ?_ ?_
    rotate_left
    ·rintro w' ⟨s0, s1, s2⟩
     go_simp
     with_reducible rfl
    rotate_left
    ·simp only [Act.put, Zl1, Zl2, Zl3, i64_w, i32_w]
     rfl
    refine take_ (i := 8) (N := some 141) (v := ?_) (a' := ?_) #[true, true, true, true, true, false, false, true, true, false, false] rfl rfl (take_ofW HT_.out HW_.out (by kernel_rfl)) (fun _ _ _ h => h) (Or.inl ⟨by rfl, ?_⟩) hHeld ?_ ?_
    rotate_left
    ·rintro w' ⟨s0, s1, s2⟩
     go_simp
     with_reducible rfl
    rotate_left
    ·simp only [Act.put, Zl1, Zl2, Zl3, i64_w, i32_w]
     rfl
    refine one_ (i := 5) (N := some 138) #[true, true, true, true, true, true, false, true, true, false, false] rfl rfl (one_of HT_.out (by kernel_rfl)) (by decide) (fun K hK => ?_)
    refine goes_ Try.func60 (by kernel_rfl) rfl #[.agg #[.int .i64 t345, .int .i64 t346, .slice Ao18 t347.length co18], .int .i64 t345, .int .i64 t346] (by rfl) rfl rfl (by (try simp only [Zm1, Zm2, Zm3]); first | done | rfl | (simp only [ZlL, ZlT]; rfl)) ?_
    with_reducible refine (impl_Resize.calls k1 t345 t346 _ _ t347 t345 t346 t409 t410 t411 _ ?side1 ?side2 A82.out).mono ?_
    (case side1 => repeat (first | exact (Kd.R_reads' HO_353002.out).2.2 | (with_reducible refine Kd.C_alloc ?_ _) | (with_reducible refine Kd.C_drewN ?_ _) | (with_reducible refine Kd.C_drew ?_)))
    (case side2 => exact (Kd.R_reads' HO_353002.out).2.1)
    rintro e w85 ⟨v412, rfl, ho0, hb⟩
    refine ⟨_, rfl, ?_⟩
    have n0_ := Zam (Kd.N_elder' (by (with_reducible repeat (first | apply Kd.N_alloc | apply Kd.N_drewN | apply Kd.N_drew)); exact HO_9.out) (Kd.R_base ho0) hb)
    have n1_ := Zam (Kd.N_elder' (by (with_reducible repeat (first | apply Kd.N_alloc | apply Kd.N_drewN | apply Kd.N_drew)); exact HO_80.out) (Kd.R_base ho0) hb)
    have n2_ := Zam (Kd.R_elder' (by (with_reducible repeat (first | apply ZrA | apply ZrW | apply ZrD)); exact HO_353002.out) (Kd.R_base ho0) hb)
    have n3_ := Zam (Kd.R_lower (Kd.R_new' ho0 (Kd.R_lt (by (with_reducible repeat (first | apply ZrA | apply ZrW | apply ZrD)); exact HO_353002.out))) (below_size (by repeat (first | (with_reducible first | exact HB.out | apply ZhA | apply ZhW | apply ZhD | refine ZhS ?_ GE352.out) | exact HB.out))))
    have n4_ := Zam (ZbB (g := gb352) (o := .cells #[.int .i64 t345, .int .i64 t346, .slice Ao18 t347.length co18] 82 (0, 0)) (by (with_reducible repeat (first | refine ZbW ?_ _ | refine ZbD ?_ | refine ZbA ?_ _)); exact BK352.out) hb)
    have n5_ := Zam (ZbS (by repeat (first | (with_reducible first | exact HB.out | apply ZhA | apply ZhW | apply ZhD | refine ZhS ?_ GE352.out) | exact HB.out)) hb)
    clear HO_9
    clear HO_80
    clear HO_353002
    clear BK352
    clear HB
    have HO_9 := n0_
    have HO_80 := n1_
    have HO_353002 := n2_
    have HO413 := n3_
    have BK352 := n4_
    have HB := n5_
    clear n0_ n1_ n2_ n3_ n4_ n5_
    (try clear hb)
    (try clear hb2)
    (try clear hk)
    (try clear hi)
    (try clear ho0)
    obtain ⟨Ao86, co86, eo86⟩ := Kd.R_slice HO413.out
    (first | subst eo86 | (injection eo86 with f1_ f2_ f3_; have f4_ := f1_.symm; have f5_ := f3_.symm; clear f1_ f2_ f3_; subst f4_; subst f5_))
    refine hK.out _ _ ⟨(ZbC BK352.out 0).trans rfl, (ZbC BK352.out 1).trans rfl, (ZbC BK352.out 2).trans rfl⟩ (fun hHeld => ?_)
    clear hK K
    refine norm_ (a' := ?_) ?_ ?_
    rotate_left
    ·show Act.put _ (some 138) _ = _
     simp only [Act.put, Zl1, Zl2, Zl3, i64_w, i32_w]
     rfl
    refine pure_ (i := 6) (N := some 139) (v := ?_) (a' := ?_) #[true, true, true, true, true, true, true, true, true, false, false] rfl rfl (any_of HT_.out (by kernel_rfl)) (fun _ _ _ h => h) (Or.inl ⟨by rfl, ?_⟩) ?_ ?_
    rotate_left
    ·intro w'
     go_simp
     with_reducible rfl
    rotate_left
    ·simp only [Act.put, Zl1, Zl2, Zl3, i64_w, i32_w]
     rfl
    refine one_ (i := 9) (N := some 142) #[true, true, true, true, true, true, true, true, true, true, false] rfl rfl (one_of HT_.out (by kernel_rfl)) (by decide) (fun K hK => ?_)
    refine goes_ Try.func66 (by kernel_rfl) rfl #[.slice Ao86 t411.length co86, .slice Ao18 t347.length co18] (by rfl) rfl rfl (by (try simp only [Zm1, Zm2, Zm3]); first | done | rfl | (simp only [ZlL, ZlT]; rfl)) ?_
    with_reducible refine (laws_wInts.calls k1 _ _ t411 _ _ t347 t414 _ ?side1 ?side2 ?side3 ?side4 A83.out).mono ?_
    (case side1 => repeat (first | exact (Kd.R_reads' HO413.out).2.2 | (with_reducible refine Kd.C_alloc ?_ _) | (with_reducible refine Kd.C_drewN ?_ _) | (with_reducible refine Kd.C_drew ?_)))
    (case side2 => exact (Kd.R_reads' HO413.out).2.1)
    (case side3 => repeat (first | exact (Kd.R_reads' HO_353002.out).2.2 | (with_reducible refine Kd.C_alloc ?_ _) | (with_reducible refine Kd.C_drewN ?_ _) | (with_reducible refine Kd.C_drew ?_)))
    (case side4 => exact (Kd.R_reads' HO_353002.out).2.1)
    rintro e w' ⟨rfl, ⟨nd, rfl⟩⟩
    refine ⟨_, rfl, ?_⟩
    refine hK.out _ _ ⟨(ZbC BK352.out 0).trans rfl, (ZbC BK352.out 1).trans rfl, (ZbC BK352.out 2).trans rfl⟩ (fun hHeld => ?_)
    clear hK K
    refine norm_ (a' := ?_) ?_ ?_
    rotate_left
    ·show Act.put _ (some 142) _ = _
     simp only [Act.put, Zl1, Zl2, Zl3, i64_w, i32_w]
     rfl
    refine pure_ (i := 10) (N := some 2) (v := ?_) (a' := ?_) #[true, true, true, true, true, true, true, true, true, true, true] rfl rfl (any_of HT_.out (by kernel_rfl)) (fun _ _ _ h => h) (Or.inl ⟨by rfl, ?_⟩) ?_ ?_
    rotate_left
    ·intro w'
     go_simp
     with_reducible rfl
    rotate_left
    ·simp only [Act.put, Zl1, Zl2, Zl3, i64_w, i32_w]
     rfl
    refine done_ (done_of HT_.out (by kernel_rfl)) ?_
    try go_wp2
    go_ret
    exact ⟨by first | rfl | (simp [*, errW_none, errW_some] <;> rfl), by repeat (first | (with_reducible first | exact HB.out | apply ZhA | apply ZhW | apply ZhD | refine ZhS ?_ GE352.out) | exact HB.out)⟩
   rw [if_pos c44] at H
   have c44b0 : decide (x82_1 < (y376.length : Int)) = true := decide_eq_true c44
   clear c44
   by_cases c45 : 0 ≤ x82_1
   rotate_left
   ·rw [if_neg c45] at H
    exact absurd H (by simp)
   rw [if_pos c45] at H
   have c45b0 : decide (0 ≤ x82_1) = true := decide_eq_true c45
   clear c45
   by_cases c46 : x82_1 < (y376.length : Int)
   rotate_left
   ·rw [if_neg c46] at H
    exact absurd H (by simp)
   rw [if_pos c46] at H
   have c46b0 : decide (x82_1 < (y376.length : Int)) = true := decide_eq_true c46
   clear c46
   by_cases c47 : x82_1 < (y399.length : Int)
   rotate_left
   ·rw [if_neg c47] at H
    exact absurd H (by simp)
   rw [if_pos c47] at H
   have c47b0 : decide (x82_1 < (y399.length : Int)) = true := decide_eq_true c47
   clear c47
   by_cases c48 : ((rd_T82 y376 x82_1).f0) = ((rd_T82 y399 x82_1).f0)
   rotate_left
   ·rw [if_neg c48] at H
    have c48b0 : (((rd_T82 y376 x82_1).f0) == ((rd_T82 y399 x82_1).f0)) = false := beq_eq_false_iff_ne.mpr c48
    have c48b1 : (((rd_T82 y376 x82_1).f0) != ((rd_T82 y399 x82_1).f0)) = true := bne_iff_ne.mpr c48
    exact absurd (H.trans (congrArg some hr_)) (by decide)
   rw [if_pos c48] at H
   have c48b0 : (((rd_T82 y376 x82_1).f0) == ((rd_T82 y399 x82_1).f0)) = true := beq_iff_eq.mpr c48
   have c48b1 : (((rd_T82 y376 x82_1).f0) != ((rd_T82 y399 x82_1).f0)) = false := bne_eq_false_iff_eq.mpr c48
   clear c48
   by_cases c49 : ((rd_T82 y376 x82_1).f1) = ((rd_T82 y399 x82_1).f1)
   rotate_left
   ·rw [if_neg c49] at H
    have c49b0 : (((rd_T82 y376 x82_1).f1) == ((rd_T82 y399 x82_1).f1)) = false := beq_eq_false_iff_ne.mpr c49
    have c49b1 : (((rd_T82 y376 x82_1).f1) != ((rd_T82 y399 x82_1).f1)) = true := bne_iff_ne.mpr c49
    exact absurd (H.trans (congrArg some hr_)) (by decide)
   rw [if_pos c49] at H
   have c49b0 : (((rd_T82 y376 x82_1).f1) == ((rd_T82 y399 x82_1).f1)) = true := beq_iff_eq.mpr c49
   have c49b1 : (((rd_T82 y376 x82_1).f1) != ((rd_T82 y399 x82_1).f1)) = false := bne_eq_false_iff_eq.mpr c49
   clear c49
   replace H := Zob.mp H
   obtain ⟨t407, A500, H⟩ := H
   replace H : (if t407 = true then (laws_FnSizes.l1 k1 t354 t355 y399 y376 (y376.length : Int) x82_1 ((rd_T82 y376 x82_1).f2) (((rd_T82 y376 x82_1).f2).length : Int) 0 t345 t346 t347) else (some false)) = some r := H
   have A50 := Zam A500
   clear A500
   by_cases c51 : t407 = true
   rotate_left
   ·replace c51 := Bool.eq_false_iff.mpr c51
    subst c51
    have H1 : (some false) = some r := by rw [if_neg (show ¬ (false = true) by decide)] at H; exact H
    exact absurd (H1.trans (congrArg some hr_)) (by decide)
   subst c51
   replace H : (laws_FnSizes.l1 k1 t354 t355 y399 y376 (y376.length : Int) x82_1 ((rd_T82 y376 x82_1).f2) (((rd_T82 y376 x82_1).f2).length : Int) 0 t345 t346 t347) = some r := by rw [if_pos rfl] at H; exact H
   have H' := Zam H
   clear H
   have p402 : 0 ≤ (x82_1 : Int) := of_decide_eq_true (by first | (with_reducible assumption) | assumption)
   have q402 : x82_1 < (y376.length : Int) := of_decide_eq_true (by first | (with_reducible assumption) | assumption)
   obtain ⟨ad402, A402_2, c402_2, e402, hx402_0, hx402_1, hx402_2, hl402_2, hi402_2⟩ := at_T82 (Kd.N_reads' HO_80.out).2.2 x82_1 p402 q402
   cases e402
   obtain ⟨ce402, hce402, hMe402, hcc402⟩ := Kd.N_get HO_80.out z82 x82_1 p402 (by first | exact q402 | exact of_decide_eq_true (by first | (with_reducible assumption) | assumption) | (have e_ := (Kd.N_reads' HO_80.out).1; omega))
   obtain ⟨ua402_2, uc402_2, rfl, ul402_2, ge402_2⟩ := k82_openF hMe402
   have hv402_2 := hcc402 2 _ rfl
   rw [add_field _ _ 2 (by omega)] at hv402_2
   replace hv402_2 := Option.some.inj (hv402_2.symm.trans hx402_2)
   injection hv402_2 with hva_ hvn_ hvc_
   rw [hva_] at ge402_2
   rw [hvc_] at ul402_2
   have HL402_2 := Zam (show Kd.V (Kd.int .i64) 3 _ w.heap.size _ _ ((rd_T82 y376 x82_1).f2) from Kd.V_mk ul402_2 ge402_2)
   clear hva_ hvn_ hvc_ ge402_2 ul402_2
   clear hcc402 hce402
   have HR402_2 := Zam hi402_2
   have HC402_2 := Zam hl402_2
   clear hi402_2 hl402_2
   replace p402 := eq_true p402
   replace q402 := eq_true q402
   try go_wp2_with (first | ((with_reducible refine gate_dst (N := 11) rfl ?_); refine box_event ?hg (N := 11) ?hd (cs := #[.int .i64 0, .int .i64 0, .slice none 0 0]) (t := 82) ?hr ?_; (case hd => rfl); (case hg => rfl); (case hr => first | (go_simp; done) | (go_simp; rfl)); intro gb403 hg w52 hbox hb; have n0_ := Zam (Kd.N_below (Kd.N_elderB (by (with_reducible repeat (first | apply Kd.N_alloc | apply Kd.N_drewN | apply Kd.N_drew)); exact HO_9.out) gb403 (Nat.le_of_eq hg.symm)) hb); have n1_ := Zam (Kd.N_below (Kd.N_elderB (by (with_reducible repeat (first | apply Kd.N_alloc | apply Kd.N_drewN | apply Kd.N_drew)); exact HO_80.out) gb403 (Nat.le_of_eq hg.symm)) hb); have n2_ := Zam (Kd.R_below (by (with_reducible repeat (first | apply ZrA | apply ZrW | apply ZrD)); exact HO_353002.out) hb); have n3_ := Zam (Kd.V_below (Kd.V_elderB (by (with_reducible repeat (first | apply ZvA | apply ZvW | apply ZvD)); exact HL402_2.out) gb403 (Nat.le_of_eq hg.symm)) hb); have n4_ := Zam (ZbB (g := gb352) (o := .cells #[.int .i64 t345, .int .i64 t346, .slice Ao18 t347.length co18] 82 (0, 0)) (by (with_reducible repeat (first | refine ZbW ?_ _ | refine ZbD ?_ | refine ZbA ?_ _)); exact BK352.out) hb); have n5_ := Zam (Kd.C_below (by repeat (first | (with_reducible exact HR402_2.out) | (with_reducible refine Kd.C_alloc ?_ _) | (with_reducible refine Kd.C_drewN ?_ _) | (with_reducible refine Kd.C_drew ?_) | exact HR402_2.out)) hb); have n6_ := Zam (ZbS (by repeat (first | (with_reducible first | exact HB.out | apply ZhA | apply ZhW | apply ZhD | refine ZhS ?_ GE352.out) | exact HB.out)) hb); have n7_ := Zam (hbox); have n8_ := Zam ((by rw [hg]; exact (below_size (by repeat (first | (with_reducible first | exact HB.out | apply ZhA | apply ZhW | apply ZhD | refine ZhS ?_ GE352.out) | exact HB.out))) : w.heap.size ≤ gb403)); have n9_ := n8_; have n10_ := Zam ((by rw [hg]; exact Nat.ne_of_lt (blk_lt (g := gb352) (o := .cells #[.int .i64 t345, .int .i64 t346, .slice Ao18 t347.length co18] 82 (0, 0)) (by (with_reducible repeat (first | refine ZbW ?_ _ | refine ZbD ?_ | refine ZbA ?_ _)); exact BK352.out)) : gb352 ≠ gb403)); have n11_ := Zam ((by rw [hg]; exact Nat.ne_of_gt (blk_lt (g := gb352) (o := .cells #[.int .i64 t345, .int .i64 t346, .slice Ao18 t347.length co18] 82 (0, 0)) (by (with_reducible repeat (first | refine ZbW ?_ _ | refine ZbD ?_ | refine ZbA ?_ _)); exact BK352.out)) : gb403 ≠ gb352)); clear HO_9 HO_80 HO_353002 HL402_2 BK352 HR402_2 HB; have HO_9 := n0_; have HO_80 := n1_; have HO_353002 := n2_; have HL402_2 := n3_; have BK352 := n4_; have HR402_2 := n5_; have HB := n6_; have BK403 := n7_; have GW403 := n8_; have GE403 := n9_; have NB352_403 := n10_; have NB403_352 := n11_; clear n0_ n1_ n2_ n3_ n4_ n5_ n6_ n7_ n8_ n9_ n10_ n11_; clear hb hbox hg; have hnb53 := NB403_352.out; have hnc53 := NB352_403.out; have hcz54_0 : w52.cell? ⟨gb403, 0, none⟩ = some (.int .i64 0) := (ZbC BK403.out 0).trans rfl; have hcz54_1 : w52.cell? ⟨gb403, 1, none⟩ = some (.int .i64 0) := (ZbC BK403.out 1).trans rfl; have hcz54_2 : w52.cell? ⟨gb403, 2, none⟩ = some (.slice none 0 0) := (ZbC BK403.out 2).trans rfl; have hfz54_0 := ZbF BK403.out 0; have hfz54_1 := ZbF BK403.out 1; have hfz54_2 := ZbF BK403.out 2))
   have n0_ : Aside0 (Kd.N k82 82 (((w52.setCell ⟨gb403, 0, none⟩ (.int .i64 ((rd_T82 y376 x82_1).f0))).setCell ⟨gb403, 1, none⟩ (.int .i64 ((rd_T82 y376 x82_1).f1))).setCell ⟨gb403, 2, none⟩ (.slice A402_2 ((rd_T82 y376 x82_1).f2).length c402_2)) w.heap.size (fun k_ => some k_ ≠ (.slice (some ad402) y376.length co43 : Value).ownBlock ∧ some k_ ≠ (.slice Ao18 t347.length co18 : Value).ownBlock ∧ k_ ≠ gb352 ∧ k_ ≠ gb403) v400 y399) := ⟨by (with_reducible repeat (first | apply Kd.N_alloc | apply Kd.N_drewN | apply Kd.N_drew)); exact Kd.N_mono (Kd.N_far (p := ⟨gb403, 2, none⟩) (Kd.N_far (p := ⟨gb403, 1, none⟩) (Kd.N_far (p := ⟨gb403, 0, none⟩) (Kd.N_mono HO_9.out (fun k_ hk => (⟨hk, hk.2⟩ : _ ∧ k_ ≠ gb403))) (fun _ hk => hk.2) (.int .i64 ((rd_T82 y376 x82_1).f0))) (fun _ hk => hk.2) (.int .i64 ((rd_T82 y376 x82_1).f1))) (fun _ hk => hk.2) (.slice A402_2 ((rd_T82 y376 x82_1).f2).length c402_2)) (fun _ hk => ⟨hk.1.1.1, ⟨hk.1.1.2.1, ⟨hk.1.1.2.2, hk.1.2⟩⟩⟩)⟩
   have n1_ : Aside0 (Kd.N k82 82 (((w52.setCell ⟨gb403, 0, none⟩ (.int .i64 ((rd_T82 y376 x82_1).f0))).setCell ⟨gb403, 1, none⟩ (.int .i64 ((rd_T82 y376 x82_1).f1))).setCell ⟨gb403, 2, none⟩ (.slice A402_2 ((rd_T82 y376 x82_1).f2).length c402_2)) w.heap.size (fun k_ => some k_ ≠ (v400 : Value).ownBlock ∧ some k_ ≠ (.slice Ao18 t347.length co18 : Value).ownBlock ∧ k_ ≠ gb352 ∧ k_ ≠ gb403) (.slice (some ad402) y376.length co43) y376) := ⟨by (with_reducible repeat (first | apply Kd.N_alloc | apply Kd.N_drewN | apply Kd.N_drew)); exact Kd.N_mono (Kd.N_far (p := ⟨gb403, 2, none⟩) (Kd.N_far (p := ⟨gb403, 1, none⟩) (Kd.N_far (p := ⟨gb403, 0, none⟩) (Kd.N_mono HO_80.out (fun k_ hk => (⟨hk, hk.2⟩ : _ ∧ k_ ≠ gb403))) (fun _ hk => hk.2) (.int .i64 ((rd_T82 y376 x82_1).f0))) (fun _ hk => hk.2) (.int .i64 ((rd_T82 y376 x82_1).f1))) (fun _ hk => hk.2) (.slice A402_2 ((rd_T82 y376 x82_1).f2).length c402_2)) (fun _ hk => ⟨hk.1.1.1, ⟨hk.1.1.2.1, ⟨hk.1.1.2.2, hk.1.2⟩⟩⟩)⟩
   have n2_ : Aside0 (Kd.R (Kd.int .i64) 3 (((w52.setCell ⟨gb403, 0, none⟩ (.int .i64 ((rd_T82 y376 x82_1).f0))).setCell ⟨gb403, 1, none⟩ (.int .i64 ((rd_T82 y376 x82_1).f1))).setCell ⟨gb403, 2, none⟩ (.slice A402_2 ((rd_T82 y376 x82_1).f2).length c402_2)) w.heap.size (fun _ => True) (.slice Ao18 t347.length co18) t347) := ⟨by (with_reducible repeat (first | apply ZrA | apply ZrW | apply ZrD)); exact Kd.R_mono (set3_R (Kd.R_types HO_353002.out BK403.out (by decide)) (fun _ hk => hk.2)) (fun _ hk => trivial)⟩
   have n3_ : Aside0 (Kd.V (Kd.int .i64) 3 (((w52.setCell ⟨gb403, 0, none⟩ (.int .i64 ((rd_T82 y376 x82_1).f0))).setCell ⟨gb403, 1, none⟩ (.int .i64 ((rd_T82 y376 x82_1).f1))).setCell ⟨gb403, 2, none⟩ (.slice A402_2 ((rd_T82 y376 x82_1).f2).length c402_2)) w.heap.size (fun k_ => some k_ ≠ (v400 : Value).ownBlock ∧ some k_ ≠ (.slice (some ad402) y376.length co43 : Value).ownBlock ∧ some k_ ≠ (.slice Ao18 t347.length co18 : Value).ownBlock ∧ k_ ≠ gb352 ∧ k_ ≠ gb403) (.slice A402_2 ((rd_T82 y376 x82_1).f2).length c402_2) ((rd_T82 y376 x82_1).f2)) := ⟨by (with_reducible repeat (first | apply ZvA | apply ZvW | apply ZvD)); exact Kd.V_mono (Kd.V_far (p := ⟨gb403, 2, none⟩) (Kd.V_far (p := ⟨gb403, 1, none⟩) (Kd.V_far (p := ⟨gb403, 0, none⟩) (Kd.V_mono HL402_2.out (fun k_ hk => (⟨hk, hk.2⟩ : _ ∧ k_ ≠ gb403))) (fun _ hk => hk.2) (.int .i64 ((rd_T82 y376 x82_1).f0))) (fun _ hk => hk.2) (.int .i64 ((rd_T82 y376 x82_1).f1))) (fun _ hk => hk.2) (.slice A402_2 ((rd_T82 y376 x82_1).f2).length c402_2)) (fun _ hk => ⟨hk.1.1.1.1, ⟨hk.1.1.2, ⟨hk.1.1.1.2.1, ⟨hk.1.1.1.2.2, hk.1.2⟩⟩⟩⟩)⟩
   have n4_ : Aside0 ((((w52.setCell ⟨gb403, 0, none⟩ (.int .i64 ((rd_T82 y376 x82_1).f0))).setCell ⟨gb403, 1, none⟩ (.int .i64 ((rd_T82 y376 x82_1).f1))).setCell ⟨gb403, 2, none⟩ (.slice A402_2 ((rd_T82 y376 x82_1).f2).length c402_2)).heap[gb352]? = some (.cells #[.int .i64 t345, .int .i64 t346, .slice Ao18 t347.length co18] 82 (0, 0))) := ⟨by (with_reducible repeat (first | refine ZbW ?_ _ | refine ZbD ?_ | refine ZbA ?_ _)); refine blk_far ?_ NB352_403.out _; (with_reducible repeat (first | refine ZbW ?_ _ | refine ZbD ?_ | refine ZbA ?_ _)); refine blk_far ?_ NB352_403.out _; (with_reducible repeat (first | refine ZbW ?_ _ | refine ZbD ?_ | refine ZbA ?_ _)); refine blk_far ?_ NB352_403.out _; (with_reducible repeat (first | refine ZbW ?_ _ | refine ZbD ?_ | refine ZbA ?_ _)); exact BK352.out⟩
   have n5_ : Aside0 ((((w52.setCell ⟨gb403, 0, none⟩ (.int .i64 ((rd_T82 y376 x82_1).f0))).setCell ⟨gb403, 1, none⟩ (.int .i64 ((rd_T82 y376 x82_1).f1))).setCell ⟨gb403, 2, none⟩ (.slice A402_2 ((rd_T82 y376 x82_1).f2).length c402_2)).heap[gb403]? = some (.cells #[.int .i64 ((rd_T82 y376 x82_1).f0), .int .i64 ((rd_T82 y376 x82_1).f1), .slice A402_2 ((rd_T82 y376 x82_1).f2).length c402_2] 82 (0, 0))) := ⟨by (with_reducible repeat (first | refine ZbW ?_ _ | refine ZbD ?_ | refine ZbA ?_ _)); refine blk_put (cs := #[.int .i64 ((rd_T82 y376 x82_1).f0), .int .i64 ((rd_T82 y376 x82_1).f1), .slice none 0 0]) ?_ 2 _ rfl; (with_reducible repeat (first | refine ZbW ?_ _ | refine ZbD ?_ | refine ZbA ?_ _)); refine blk_put (cs := #[.int .i64 ((rd_T82 y376 x82_1).f0), .int .i64 0, .slice none 0 0]) ?_ 1 _ rfl; (with_reducible repeat (first | refine ZbW ?_ _ | refine ZbD ?_ | refine ZbA ?_ _)); refine blk_put (cs := #[.int .i64 0, .int .i64 0, .slice none 0 0]) ?_ 0 _ rfl; (with_reducible repeat (first | refine ZbW ?_ _ | refine ZbD ?_ | refine ZbA ?_ _)); exact BK403.out⟩
   have n6_ : Aside0 (Below w.heap.size w (((w52.setCell ⟨gb403, 0, none⟩ (.int .i64 ((rd_T82 y376 x82_1).f0))).setCell ⟨gb403, 1, none⟩ (.int .i64 ((rd_T82 y376 x82_1).f1))).setCell ⟨gb403, 2, none⟩ (.slice A402_2 ((rd_T82 y376 x82_1).f2).length c402_2))) := ⟨by repeat (first | (with_reducible first | exact HB.out | apply ZhA | apply ZhW | apply ZhD | refine ZhS ?_ GE352.out | refine ZhS ?_ GE403.out) | exact HB.out)⟩
   (try clear HO_9)
   (try clear HO_80)
   (try clear HO_353002)
   (try clear HL402_2)
   (try clear BK352)
   (try clear BK403)
   (try clear HB)
   generalize (((w52.setCell ⟨gb403, 0, none⟩ (.int .i64 ((rd_T82 y376 x82_1).f0))).setCell ⟨gb403, 1, none⟩ (.int .i64 ((rd_T82 y376 x82_1).f1))).setCell ⟨gb403, 2, none⟩ (.slice A402_2 ((rd_T82 y376 x82_1).f2).length c402_2)) = w55 at n0_ n1_ n2_ n3_ n4_ n5_ n6_ ⊢
   have HO_9 := n0_
   have HO_80 := n1_
   have HO_353002 := n2_
   have HL402_2 := n3_
   have BK352 := n4_
   have BK403 := n5_
   have HB := n6_
   clear n0_ n1_ n2_ n3_ n4_ n5_ n6_
   have n0_ := Zam (Kd.N_drew HO_9.out)
   have n1_ := Zam (Kd.N_drew HO_80.out)
   have n2_ := Zam (ZrD HO_353002.out)
   have n3_ := Zam (ZvD HL402_2.out)
   have n4_ := Zam (ZbD BK352.out)
   have n5_ := Zam (ZbD BK403.out)
   have n6_ := Zam (ZhD HB.out)
   clear HO_9
   clear HO_80
   clear HO_353002
   clear HL402_2
   clear BK352
   clear BK403
   clear HB
   have HO_9 := n0_
   have HO_80 := n1_
   have HO_353002 := n2_
   have HL402_2 := n3_
   have BK352 := n4_
   have BK403 := n5_
   have HB := n6_
   clear n0_ n1_ n2_ n3_ n4_ n5_ n6_
   obtain ⟨Ao57, co57, eo57⟩ := Kd.N_slice HO_9.out
   (first | subst eo57 | (injection eo57 with f1_ f2_ f3_; have f4_ := f1_.symm; have f5_ := f3_.symm; clear f1_ f2_ f3_; subst f4_; subst f5_))
   have p404 : 0 ≤ (x82_1 : Int) := of_decide_eq_true (by first | (with_reducible assumption) | assumption)
   have q404 : x82_1 < (y399.length : Int) := of_decide_eq_true (by first | (with_reducible assumption) | assumption)
   obtain ⟨ad404, A404_2, c404_2, e404, hx404_0, hx404_1, hx404_2, hl404_2, hi404_2⟩ := at_T82 (Kd.N_reads' HO_9.out).2.2 x82_1 p404 q404
   cases e404
   obtain ⟨ce404, hce404, hMe404, hcc404⟩ := Kd.N_get HO_9.out z82 x82_1 p404 (by first | exact q404 | exact of_decide_eq_true (by first | (with_reducible assumption) | assumption) | (have e_ := (Kd.N_reads' HO_9.out).1; omega))
   obtain ⟨ua404_2, uc404_2, rfl, ul404_2, ge404_2⟩ := k82_openF hMe404
   have hv404_2 := hcc404 2 _ rfl
   rw [add_field _ _ 2 (by omega)] at hv404_2
   replace hv404_2 := Option.some.inj (hv404_2.symm.trans hx404_2)
   injection hv404_2 with hva_ hvn_ hvc_
   rw [hva_] at ge404_2
   rw [hvc_] at ul404_2
   have HL404_2 := Zam (show Kd.V (Kd.int .i64) 3 _ w.heap.size _ _ ((rd_T82 y399 x82_1).f2) from Kd.V_mk ul404_2 ge404_2)
   clear hva_ hvn_ hvc_ ge404_2 ul404_2
   clear hcc404 hce404
   have HR404_2 := Zam hi404_2
   have HC404_2 := Zam hl404_2
   clear hi404_2 hl404_2
   replace p404 := eq_true p404
   replace q404 := eq_true q404
   have p405 : 0 ≤ (x82_1 : Int) := of_decide_eq_true (by first | (with_reducible assumption) | assumption)
   have q405 : x82_1 < (y399.length : Int) := of_decide_eq_true (by first | (with_reducible assumption) | assumption)
   obtain ⟨ad405, A405_2, c405_2, e405, hx405_0, hx405_1, hx405_2, hl405_2, hi405_2⟩ := at_T82 (Kd.N_reads' HO_9.out).2.2 x82_1 p405 q405
   obtain rfl : ad404 = ad405 := (by injection e405)
   obtain ⟨ce405, hce405, hMe405, hcc405⟩ := Kd.N_get HO_9.out z82 x82_1 p405 (by first | exact q405 | exact of_decide_eq_true (by first | (with_reducible assumption) | assumption) | (have e_ := (Kd.N_reads' HO_9.out).1; omega))
   obtain ⟨ua405_2, uc405_2, rfl, ul405_2, ge405_2⟩ := k82_openF hMe405
   have hv405_2 := hcc405 2 _ rfl
   rw [add_field _ _ 2 (by omega)] at hv405_2
   replace hv405_2 := Option.some.inj (hv405_2.symm.trans hx405_2)
   injection hv405_2 with hva_ hvn_ hvc_
   rw [hva_] at ge405_2
   rw [hvc_] at ul405_2
   have HL405_2 := Zam (show Kd.V (Kd.int .i64) 3 _ w.heap.size _ _ ((rd_T82 y399 x82_1).f2) from Kd.V_mk ul405_2 ge405_2)
   clear hva_ hvn_ hvc_ ge405_2 ul405_2
   clear hcc405 hce405
   have HR405_2 := Zam hi405_2
   have HC405_2 := Zam hl405_2
   clear hi405_2 hl405_2
   replace p405 := eq_true p405
   replace q405 := eq_true q405
   have ea_ := Option.some.inj (hx404_2.symm.trans hx405_2)
   injection ea_ with ea_ en_ ec_
   subst ea_
   subst ec_
   clear en_
   have p406 : 0 ≤ (x82_1 : Int) := of_decide_eq_true (by first | (with_reducible assumption) | assumption)
   have q406 : x82_1 < (y399.length : Int) := of_decide_eq_true (by first | (with_reducible assumption) | assumption)
   obtain ⟨ad406, A406_2, c406_2, e406, hx406_0, hx406_1, hx406_2, hl406_2, hi406_2⟩ := at_T82 (Kd.N_reads' HO_9.out).2.2 x82_1 p406 q406
   obtain rfl : ad404 = ad406 := (by injection e406)
   obtain ⟨ce406, hce406, hMe406, hcc406⟩ := Kd.N_get HO_9.out z82 x82_1 p406 (by first | exact q406 | exact of_decide_eq_true (by first | (with_reducible assumption) | assumption) | (have e_ := (Kd.N_reads' HO_9.out).1; omega))
   obtain ⟨ua406_2, uc406_2, rfl, ul406_2, ge406_2⟩ := k82_openF hMe406
   have hv406_2 := hcc406 2 _ rfl
   rw [add_field _ _ 2 (by omega)] at hv406_2
   replace hv406_2 := Option.some.inj (hv406_2.symm.trans hx406_2)
   injection hv406_2 with hva_ hvn_ hvc_
   rw [hva_] at ge406_2
   rw [hvc_] at ul406_2
   have HL406_2 := Zam (show Kd.V (Kd.int .i64) 3 _ w.heap.size _ _ ((rd_T82 y399 x82_1).f2) from Kd.V_mk ul406_2 ge406_2)
   clear hva_ hvn_ hvc_ ge406_2 ul406_2
   clear hcc406 hce406
   have HR406_2 := Zam hi406_2
   have HC406_2 := Zam hl406_2
   clear hi406_2 hl406_2
   replace p406 := eq_true p406
   replace q406 := eq_true q406
   have ea_ := Option.some.inj (hx404_2.symm.trans hx406_2)
   injection ea_ with ea_ en_ ec_
   subst ea_
   subst ec_
   clear en_
   refine start_ (n := 29) (S := fun w' => w'.cell? ⟨gb403, 0, none⟩ = some (.int .i64 ((rd_T82 y376 x82_1).f0)) ∧ w'.cell? ⟨gb403, 1, none⟩ = some (.int .i64 ((rd_T82 y376 x82_1).f1)) ∧ w'.cell? ⟨gb403, 2, none⟩ = some (.slice A402_2 ((rd_T82 y376 x82_1).f2).length c402_2) ∧ w'.cell? (ad404.add ((x82_1).toNat * 3)) = some (.int .i64 ((rd_T82 y399 x82_1).f0)) ∧ w'.cell? ⟨(ad404.add ((x82_1).toNat * 3)).block, (ad404.add ((x82_1).toNat * 3)).off + 1, none⟩ = some (.int .i64 ((rd_T82 y399 x82_1).f1)) ∧ w'.cell? ⟨(ad404.add ((x82_1).toNat * 3)).block, (ad404.add ((x82_1).toNat * 3)).off + 2, none⟩ = some (.slice A404_2 ((rd_T82 y399 x82_1).f2).length c404_2) ∧ w'.cell? (ad404.add ((x82_1).toNat * 3)) = some (.int .i64 ((rd_T82 y399 x82_1).f0)) ∧ w'.cell? ⟨(ad404.add ((x82_1).toNat * 3)).block, (ad404.add ((x82_1).toNat * 3)).off + 1, none⟩ = some (.int .i64 ((rd_T82 y399 x82_1).f1)) ∧ w'.cell? ⟨(ad404.add ((x82_1).toNat * 3)).block, (ad404.add ((x82_1).toNat * 3)).off + 2, none⟩ = some (.slice A404_2 ((rd_T82 y399 x82_1).f2).length c404_2) ∧ w'.cell? (ad404.add ((x82_1).toNat * 3)) = some (.int .i64 ((rd_T82 y399 x82_1).f0)) ∧ w'.cell? ⟨(ad404.add ((x82_1).toNat * 3)).block, (ad404.add ((x82_1).toNat * 3)).off + 1, none⟩ = some (.int .i64 ((rd_T82 y399 x82_1).f1)) ∧ w'.cell? ⟨(ad404.add ((x82_1).toNat * 3)).block, (ad404.add ((x82_1).toNat * 3)).off + 2, none⟩ = some (.slice A404_2 ((rd_T82 y399 x82_1).f2).length c404_2)) (ds := []) #[false, false, false, false, false, false, false, false, false, false, false, false, false, false, false, false, false, false, false, false, false, false, false, false, false, false, false, false, false] (by kernel_rfl) rfl rfl ⟨(ZbC BK403.out 0).trans rfl, (ZbC BK403.out 1).trans rfl, (ZbC BK403.out 2).trans rfl, hx404_0, hx404_1, hx404_2, hx405_0, hx405_1, hx405_2, hx406_0, hx406_1, hx406_2⟩ (fun hHeld => ?_); refine with_tabW laws_FnSizes.tab12 laws_FnSizes.bits12 (fun HT_ HW_ => ?_)
   generalize w55.drew = w56 at HO_9 HO_80 HO_353002 HL402_2 BK352 BK403 HB HL404_2 HL405_2 HL406_2 HR404_2 HR405_2 HR406_2 hx404_0 hx404_1 hx404_2 hx405_0 hx405_1 hx405_2 hx406_0 hx406_1 hx406_2 hHeld ⊢
   refine pure_ (i := 0) (N := some 87) (v := ?_) (a' := ?_) #[true, false, false, false, false, false, false, false, false, false, false, false, false, false, false, false, false, false, false, false, false, false, false, false, false, false, false, false, false] rfl rfl (any_of HT_.out (by kernel_rfl)) (fun _ _ _ h => h) (Or.inl ⟨by rfl, ?_⟩) ?_ ?_
   rotate_left
   ·intro w'
    go_simp
    with_reducible rfl
   rotate_left
   ·simp only [Act.put, Zl1, Zl2, Zl3, i64_w, i32_w]
    rfl
   refine pure_ (i := 2) (N := some 89) (v := ?_) (a' := ?_) #[true, false, true, false, false, false, false, false, false, false, false, false, false, false, false, false, false, false, false, false, false, false, false, false, false, false, false, false, false] rfl rfl (any_of HT_.out (by kernel_rfl)) (fun _ _ _ h => h) (Or.inl ⟨by rfl, ?_⟩) ?_ ?_
   rotate_left
   ·intro w'
    go_simp
    with_reducible rfl
   rotate_left
   ·simp only [Act.put, Zl1, Zl2, Zl3, i64_w, i32_w]
    rfl
   refine pure_ (i := 3) (N := some 90) (v := ?_) (a' := ?_) #[true, false, true, true, false, false, false, false, false, false, false, false, false, false, false, false, false, false, false, false, false, false, false, false, false, false, false, false, false] rfl rfl (any_of HT_.out (by kernel_rfl)) (fun _ _ _ h => h) (Or.inl ⟨by rfl, ?_⟩) ?_ ?_
   rotate_left
   ·intro w'
    go_simp
    with_reducible rfl
   rotate_left
   ·simp only [Act.put, Zl1, Zl2, Zl3, i64_w, i32_w]
    rfl
   refine pure_ (i := 4) (N := some 91) (v := ?_) (a' := ?_) #[true, false, true, true, true, false, false, false, false, false, false, false, false, false, false, false, false, false, false, false, false, false, false, false, false, false, false, false, false] rfl rfl (any_of HT_.out (by kernel_rfl)) (fun _ _ _ h => h) (Or.inl ⟨by rfl, ?_⟩) ?_ ?_
   rotate_left
   ·intro w'
    go_simp
    with_reducible rfl
   rotate_left
   ·simp only [Act.put, Zl1, Zl2, Zl3, i64_w, i32_w]
    rfl
   refine pure_ (i := 5) (N := some 92) (v := ?_) (a' := ?_) #[true, false, true, true, true, true, false, false, false, false, false, false, false, false, false, false, false, false, false, false, false, false, false, false, false, false, false, false, false] rfl rfl (any_of HT_.out (by kernel_rfl)) (fun _ _ _ h => h) (Or.inl ⟨by rfl, ?_⟩) ?_ ?_
   rotate_left
   ·intro w'
    go_simp
    with_reducible rfl
   rotate_left
   ·simp only [Act.put, Zl1, Zl2, Zl3, i64_w, i32_w]
    rfl
   refine take_ (i := 1) (N := some 88) (v := ?_) (a' := ?_) #[true, true, true, true, true, true, false, false, false, false, false, false, false, false, false, false, false, false, false, false, false, false, false, false, false, false, false, false, false] rfl rfl (take_ofW HT_.out HW_.out (by kernel_rfl)) (fun _ _ _ h => h) (Or.inl ⟨by rfl, ?_⟩) hHeld ?_ ?_
   rotate_left
   ·rintro w' ⟨s0, s1, s2, s3, s4, s5, s6, s7, s8, s9, s10, s11⟩
    go_simp
    with_reducible rfl
   rotate_left
   ·simp only [Act.put, Zl1, Zl2, Zl3, i64_w, i32_w]
    rfl
   refine take_ (i := 6) (N := some 93) (v := ?_) (a' := ?_) #[true, true, true, true, true, true, true, false, false, false, false, false, false, false, false, false, false, false, false, false, false, false, false, false, false, false, false, false, false] rfl rfl (take_ofW HT_.out HW_.out (by kernel_rfl)) (fun _ _ _ h => h) (Or.inl ⟨by rfl, ?_⟩) hHeld ?_ ?_
   rotate_left
   ·rintro w' ⟨s0, s1, s2, s3, s4, s5, s6, s7, s8, s9, s10, s11⟩
    go_simp
    with_reducible rfl
   rotate_left
   ·simp only [Act.put, Zl1, Zl2, Zl3, i64_w, i32_w]
    rfl
   refine pure_ (i := 7) (N := some 94) (v := ?_) (a' := ?_) #[true, true, true, true, true, true, true, true, false, false, false, false, false, false, false, false, false, false, false, false, false, false, false, false, false, false, false, false, false] rfl rfl (any_of HT_.out (by kernel_rfl)) (fun _ _ _ h => h) (Or.inl ⟨by rfl, ?_⟩) ?_ ?_
   rotate_left
   ·intro w'
    go_simp
    with_reducible rfl
   rotate_left
   ·simp only [Act.put, Zl1, Zl2, Zl3, i64_w, i32_w]
    rfl
   refine pure_ (i := 8) (N := some 95) (v := ?_) (a' := ?_) #[true, true, true, true, true, true, true, true, true, false, false, false, false, false, false, false, false, false, false, false, false, false, false, false, false, false, false, false, false] rfl rfl (any_of HT_.out (by kernel_rfl)) (fun _ _ _ h => h) (Or.inl ⟨by rfl, ?_⟩) ?_ ?_
   rotate_left
   ·intro w'
    go_simp
    with_reducible rfl
   rotate_left
   ·simp only [Act.put, Zl1, Zl2, Zl3, i64_w, i32_w]
    rfl
   refine pure_ (i := 9) (N := some 96) (v := ?_) (a' := ?_) #[true, true, true, true, true, true, true, true, true, true, false, false, false, false, false, false, false, false, false, false, false, false, false, false, false, false, false, false, false] rfl rfl (any_of HT_.out (by kernel_rfl)) (fun _ _ _ h => h) (Or.inl ⟨by rfl, ?_⟩) ?_ ?_
   rotate_left
   ·intro w'
    go_simp
    with_reducible rfl
   rotate_left
   ·simp only [Act.put, Zl1, Zl2, Zl3, i64_w, i32_w]
    rfl
   refine pure_ (i := 11) (N := some 98) (v := ?_) (a' := ?_) #[true, true, true, true, true, true, true, true, true, true, false, true, false, false, false, false, false, false, false, false, false, false, false, false, false, false, false, false, false] rfl rfl (any_of HT_.out (by kernel_rfl)) (fun _ _ _ h => h) (Or.inl ⟨by rfl, ?_⟩) ?_ ?_
   rotate_left
   ·intro w'
    go_simp
    with_reducible rfl
   rotate_left
   ·simp only [Act.put, Zl1, Zl2, Zl3, i64_w, i32_w]
    rfl
   refine pure_ (i := 12) (N := some 99) (v := ?_) (a' := ?_) #[true, true, true, true, true, true, true, true, true, true, false, true, true, false, false, false, false, false, false, false, false, false, false, false, false, false, false, false, false] rfl rfl (any_of HT_.out (by kernel_rfl)) (fun _ _ _ h => h) (Or.inl ⟨by rfl, ?_⟩) ?_ ?_
   rotate_left
   ·intro w'
    go_simp
    with_reducible rfl
   rotate_left
   ·simp only [Act.put, Zl1, Zl2, Zl3, i64_w, i32_w]
    rfl
   refine pure_ (i := 13) (N := some 100) (v := ?_) (a' := ?_) #[true, true, true, true, true, true, true, true, true, true, false, true, true, true, false, false, false, false, false, false, false, false, false, false, false, false, false, false, false] rfl rfl (any_of HT_.out (by kernel_rfl)) (fun _ _ _ h => h) (Or.inl ⟨by rfl, ?_⟩) ?_ ?_
   rotate_left
   ·intro w'
    go_simp
    with_reducible rfl
   rotate_left
   ·simp only [Act.put, Zl1, Zl2, Zl3, i64_w, i32_w]
    rfl
   refine pure_ (i := 14) (N := some 101) (v := ?_) (a' := ?_) #[true, true, true, true, true, true, true, true, true, true, false, true, true, true, true, false, false, false, false, false, false, false, false, false, false, false, false, false, false] rfl rfl (any_of HT_.out (by kernel_rfl)) (fun _ _ _ h => h) (Or.inl ⟨by rfl, ?_⟩) ?_ ?_
   rotate_left
   ·intro w'
    go_simp
    with_reducible rfl
   rotate_left
   ·simp only [Act.put, Zl1, Zl2, Zl3, i64_w, i32_w]
    rfl
   refine take_ (i := 10) (N := some 97) (v := ?_) (a' := ?_) #[true, true, true, true, true, true, true, true, true, true, true, true, true, true, true, false, false, false, false, false, false, false, false, false, false, false, false, false, false] rfl rfl (take_ofW HT_.out HW_.out (by kernel_rfl)) (fun _ _ _ h => h) (Or.inl ⟨by rfl, ?_⟩) hHeld ?_ ?_
   rotate_left
   ·rintro w' ⟨s0, s1, s2, s3, s4, s5, s6, s7, s8, s9, s10, s11⟩
    go_simp
    with_reducible rfl
   rotate_left
   ·simp only [Act.put, Zl1, Zl2, Zl3, i64_w, i32_w]
    rfl
   refine take_ (i := 15) (N := some 102) (v := ?_) (a' := ?_) #[true, true, true, true, true, true, true, true, true, true, true, true, true, true, true, true, false, false, false, false, false, false, false, false, false, false, false, false, false] rfl rfl (take_ofW HT_.out HW_.out (by kernel_rfl)) (fun _ _ _ h => h) (Or.inl ⟨by rfl, ?_⟩) hHeld ?_ ?_
   rotate_left
   ·rintro w' ⟨s0, s1, s2, s3, s4, s5, s6, s7, s8, s9, s10, s11⟩
    go_simp
    with_reducible rfl
   rotate_left
   ·simp only [Act.put, Zl1, Zl2, Zl3, i64_w, i32_w]
    rfl
   refine pure_ (i := 16) (N := some 103) (v := ?_) (a' := ?_) #[true, true, true, true, true, true, true, true, true, true, true, true, true, true, true, true, true, false, false, false, false, false, false, false, false, false, false, false, false] rfl rfl (any_of HT_.out (by kernel_rfl)) (fun _ _ _ h => h) (Or.inl ⟨by rfl, ?_⟩) ?_ ?_
   rotate_left
   ·intro w'
    go_simp
    with_reducible rfl
   rotate_left
   ·simp only [Act.put, Zl1, Zl2, Zl3, i64_w, i32_w]
    rfl
   refine pure_ (i := 17) (N := some 104) (v := ?_) (a' := ?_) #[true, true, true, true, true, true, true, true, true, true, true, true, true, true, true, true, true, true, false, false, false, false, false, false, false, false, false, false, false] rfl rfl (any_of HT_.out (by kernel_rfl)) (fun _ _ _ h => h) (Or.inl ⟨by rfl, ?_⟩) ?_ ?_
   rotate_left
   ·intro w'
    go_simp
    with_reducible rfl
   rotate_left
   ·simp only [Act.put, Zl1, Zl2, Zl3, i64_w, i32_w]
    rfl
   refine pure_ (i := 18) (N := some 105) (v := ?_) (a' := ?_) #[true, true, true, true, true, true, true, true, true, true, true, true, true, true, true, true, true, true, true, false, false, false, false, false, false, false, false, false, false] rfl rfl (any_of HT_.out (by kernel_rfl)) (fun _ _ _ h => h) (Or.inl ⟨by rfl, ?_⟩) ?_ ?_
   rotate_left
   ·intro w'
    go_simp
    with_reducible rfl
   rotate_left
   ·simp only [Act.put, Zl1, Zl2, Zl3, i64_w, i32_w]
    rfl
   refine pure_ (i := 19) (N := some 106) (v := ?_) (a' := ?_) #[true, true, true, true, true, true, true, true, true, true, true, true, true, true, true, true, true, true, true, true, false, false, false, false, false, false, false, false, false] rfl rfl (any_of HT_.out (by kernel_rfl)) (fun _ _ _ h => h) (Or.inl ⟨by rfl, ?_⟩) ?_ ?_
   rotate_left
   ·intro w'
    go_simp
    with_reducible rfl
   rotate_left
   ·simp only [Act.put, Zl1, Zl2, Zl3, i64_w, i32_w]
    rfl
   refine pure_ (i := 21) (N := some 108) (v := ?_) (a' := ?_) #[true, true, true, true, true, true, true, true, true, true, true, true, true, true, true, true, true, true, true, true, false, true, false, false, false, false, false, false, false] rfl rfl (any_of HT_.out (by kernel_rfl)) (fun _ _ _ h => h) (Or.inl ⟨by rfl, ?_⟩) ?_ ?_
   rotate_left
   ·intro w'
    go_simp
    with_reducible rfl
   rotate_left
   ·simp only [Act.put, Zl1, Zl2, Zl3, i64_w, i32_w]
    rfl
   refine pure_ (i := 22) (N := some 109) (v := ?_) (a' := ?_) #[true, true, true, true, true, true, true, true, true, true, true, true, true, true, true, true, true, true, true, true, false, true, true, false, false, false, false, false, false] rfl rfl (any_of HT_.out (by kernel_rfl)) (fun _ _ _ h => h) (Or.inl ⟨by rfl, ?_⟩) ?_ ?_
   rotate_left
   ·intro w'
    go_simp
    with_reducible rfl
   rotate_left
   ·simp only [Act.put, Zl1, Zl2, Zl3, i64_w, i32_w]
    rfl
   refine pure_ (i := 23) (N := some 110) (v := ?_) (a' := ?_) #[true, true, true, true, true, true, true, true, true, true, true, true, true, true, true, true, true, true, true, true, false, true, true, true, false, false, false, false, false] rfl rfl (any_of HT_.out (by kernel_rfl)) (fun _ _ _ h => h) (Or.inl ⟨by rfl, ?_⟩) ?_ ?_
   rotate_left
   ·intro w'
    go_simp
    with_reducible rfl
   rotate_left
   ·simp only [Act.put, Zl1, Zl2, Zl3, i64_w, i32_w]
    rfl
   refine pure_ (i := 24) (N := some 111) (v := ?_) (a' := ?_) #[true, true, true, true, true, true, true, true, true, true, true, true, true, true, true, true, true, true, true, true, false, true, true, true, true, false, false, false, false] rfl rfl (any_of HT_.out (by kernel_rfl)) (fun _ _ _ h => h) (Or.inl ⟨by rfl, ?_⟩) ?_ ?_
   rotate_left
   ·intro w'
    go_simp
    with_reducible rfl
   rotate_left
   ·simp only [Act.put, Zl1, Zl2, Zl3, i64_w, i32_w]
    rfl
   refine take_ (i := 20) (N := some 107) (v := ?_) (a' := ?_) #[true, true, true, true, true, true, true, true, true, true, true, true, true, true, true, true, true, true, true, true, true, true, true, true, true, false, false, false, false] rfl rfl (take_ofW HT_.out HW_.out (by kernel_rfl)) (fun _ _ _ h => h) (Or.inl ⟨by rfl, ?_⟩) hHeld ?_ ?_
   rotate_left
   ·rintro w' ⟨s0, s1, s2, s3, s4, s5, s6, s7, s8, s9, s10, s11⟩
    go_simp
    with_reducible rfl
   rotate_left
   ·simp only [Act.put, Zl1, Zl2, Zl3, i64_w, i32_w]
    rfl
   refine take_ (i := 25) (N := some 112) (v := ?_) (a' := ?_) #[true, true, true, true, true, true, true, true, true, true, true, true, true, true, true, true, true, true, true, true, true, true, true, true, true, true, false, false, false] rfl rfl (take_ofW HT_.out HW_.out (by kernel_rfl)) (fun _ _ _ h => h) (Or.inl ⟨by rfl, ?_⟩) hHeld ?_ ?_
   rotate_left
   ·rintro w' ⟨s0, s1, s2, s3, s4, s5, s6, s7, s8, s9, s10, s11⟩
    go_simp
    with_reducible rfl
   rotate_left
   ·simp only [Act.put, Zl1, Zl2, Zl3, i64_w, i32_w]
    rfl
   refine one_ (i := 26) (N := some 113) #[true, true, true, true, true, true, true, true, true, true, true, true, true, true, true, true, true, true, true, true, true, true, true, true, true, true, true, false, false] rfl rfl (one_of HT_.out (by kernel_rfl)) (by decide) (fun K hK => ?_)
   refine goes_ Try.func66 (by kernel_rfl) rfl #[.slice A402_2 ((rd_T82 y376 x82_1).f2).length c402_2, .slice A404_2 ((rd_T82 y399 x82_1).f2).length c404_2] (by rfl) rfl rfl (by (try simp only [Zm1, Zm2, Zm3]); first | done | rfl | (simp only [ZlL, ZlT]; rfl)) ?_
   with_reducible refine (laws_wInts.calls k1 _ _ ((rd_T82 y376 x82_1).f2) _ _ ((rd_T82 y399 x82_1).f2) true _ ?side1 ?side2 ?side3 ?side4 A50.out).mono ?_
   (case side1 => repeat (first | exact ((Kd.V_reads' (by (with_reducible repeat (first | apply ZvA | apply ZvW | apply ZvD)); exact HL402_2.out)).2.2) | (with_reducible refine Kd.C_alloc ?_ _) | (with_reducible refine Kd.C_drewN ?_ _) | (with_reducible refine Kd.C_drew ?_)))
   (case side2 => exact HC402_2.out)
   (case side3 => repeat (first | exact (by repeat (first | (with_reducible exact HR406_2.out) | (with_reducible refine Kd.C_alloc ?_ _) | (with_reducible refine Kd.C_drewN ?_ _) | (with_reducible refine Kd.C_drew ?_) | exact HR406_2.out)) | (with_reducible refine Kd.C_alloc ?_ _) | (with_reducible refine Kd.C_drewN ?_ _) | (with_reducible refine Kd.C_drew ?_)))
   (case side4 => exact HC406_2.out)
   rintro e w' ⟨rfl, ⟨nd, rfl⟩⟩
   refine ⟨_, rfl, ?_⟩
   refine hK.out _ _ ⟨(ZbC BK403.out 0).trans rfl, (ZbC BK403.out 1).trans rfl, (ZbC BK403.out 2).trans rfl, hHeld.2.2.2.1, hHeld.2.2.2.2.1, hHeld.2.2.2.2.2.1, hHeld.2.2.2.2.2.2.1, hHeld.2.2.2.2.2.2.2.1, hHeld.2.2.2.2.2.2.2.2.1, hHeld.2.2.2.2.2.2.2.2.2.1, hHeld.2.2.2.2.2.2.2.2.2.2.1, hHeld.2.2.2.2.2.2.2.2.2.2.2⟩ (fun hHeld => ?_)
   clear hK K
   refine norm_ (a' := ?_) ?_ ?_
   rotate_left
   ·show Act.put _ (some 113) _ = _
    simp only [Act.put, Zl1, Zl2, Zl3, i64_w, i32_w]
    rfl
   refine pure_ (i := 27) (N := some 114) (v := ?_) (a' := ?_) #[true, true, true, true, true, true, true, true, true, true, true, true, true, true, true, true, true, true, true, true, true, true, true, true, true, true, true, true, false] rfl rfl (any_of HT_.out (by kernel_rfl)) (fun _ _ _ h => h) (Or.inl ⟨by rfl, ?_⟩) ?_ ?_
   rotate_left
   ·intro w'
    go_simp
    with_reducible rfl
   rotate_left
   ·simp only [Act.put, Zl1, Zl2, Zl3, i64_w, i32_w]
    rfl
   refine pure_ (i := 28) (N := some 115) (v := ?_) (a' := ?_) #[true, true, true, true, true, true, true, true, true, true, true, true, true, true, true, true, true, true, true, true, true, true, true, true, true, true, true, true, true] rfl rfl (any_of HT_.out (by kernel_rfl)) (fun _ _ _ h => h) (Or.inl ⟨by rfl, ?_⟩) ?_ ?_
   rotate_left
   ·intro w'
    go_simp
    with_reducible rfl
   rotate_left
   ·simp only [Act.put, Zl1, Zl2, Zl3, i64_w, i32_w]
    rfl
   refine done_ (done_of HT_.out (by kernel_rfl)) ?_
   have hcz58_0 : w56.cell? ⟨gb403, 0, none⟩ = some (.int .i64 ((rd_T82 y376 x82_1).f0)) := (ZbC BK403.out 0).trans rfl
   have hcz58_1 : w56.cell? ⟨gb403, 1, none⟩ = some (.int .i64 ((rd_T82 y376 x82_1).f1)) := (ZbC BK403.out 1).trans rfl
   have hcz58_2 : w56.cell? ⟨gb403, 2, none⟩ = some (.slice A402_2 ((rd_T82 y376 x82_1).f2).length c402_2) := (ZbC BK403.out 2).trans rfl
   have hfz58_0 := ZbF BK403.out 0
   have hfz58_1 := ZbF BK403.out 1
   have hfz58_2 := ZbF BK403.out 2
   try go_wp2
   go_loopg [119] k1 (fun kq v119 w' => ∃ (x119_2 : Int), v119 = .int .i64 x119_2 ∧ Aside0 (laws_FnSizes.l1 kq t354 t355 y399 y376 (y376.length : Int) x82_1 ((rd_T82 y376 x82_1).f2) (((rd_T82 y376 x82_1).f2).length : Int) x119_2 t345 t346 t347 = some r) ∧ Aside0 (kq ≤ k1) ∧ Aside0 (Kd.N k82 82 w' w.heap.size (fun k_ => some k_ ≠ ((.slice (some ad402) y376.length co43) : Value).ownBlock ∧ some k_ ≠ ((.slice Ao18 t347.length co18) : Value).ownBlock ∧ k_ ≠ gb352 ∧ k_ ≠ gb403) (.slice (some ad404) y399.length co57) y399) ∧ Aside0 (Kd.N k82 82 w' w.heap.size (fun k_ => some k_ ≠ ((.slice (some ad404) y399.length co57) : Value).ownBlock ∧ some k_ ≠ ((.slice Ao18 t347.length co18) : Value).ownBlock ∧ k_ ≠ gb352 ∧ k_ ≠ gb403) (.slice (some ad402) y376.length co43) y376) ∧ Aside0 (Kd.R (Kd.int .i64) 3 w' w.heap.size (fun _ => True) (.slice Ao18 t347.length co18) t347) ∧ Aside0 (w'.heap[gb352]? = some (.cells #[.int .i64 t345, .int .i64 t346, (.slice Ao18 t347.length co18)] 82 (0, 0))) ∧ Aside0 (w'.heap[gb403]? = some (.cells #[.int .i64 ((rd_T82 y376 x82_1).f0), .int .i64 ((rd_T82 y376 x82_1).f1), (.slice A402_2 ((rd_T82 y376 x82_1).f2).length c402_2)] 82 (0, 0))) ∧ Aside0 (Kd.C (Kd.int .i64) w' A404_2 ((rd_T82 y399 x82_1).f2).length ((rd_T82 y399 x82_1).f2)) ∧ Aside0 (Kd.C (Kd.int .i64) w' A404_2 ((rd_T82 y399 x82_1).f2).length ((rd_T82 y399 x82_1).f2)) ∧ Aside0 (Kd.C (Kd.int .i64) w' A402_2 ((rd_T82 y376 x82_1).f2).length ((rd_T82 y376 x82_1).f2)) ∧ Aside0 (Below w.heap.size w w'))
   case atStart => exact ⟨(0), (by first | rfl | (simp; done) | (simp [*]; done)), H', ⟨Nat.le_refl _⟩, ⟨by (with_reducible repeat (first | apply Kd.N_alloc | apply Kd.N_drewN | apply Kd.N_drew)); exact HO_9.out⟩, ⟨by (with_reducible repeat (first | apply Kd.N_alloc | apply Kd.N_drewN | apply Kd.N_drew)); exact HO_80.out⟩, ⟨by (with_reducible repeat (first | apply ZrA | apply ZrW | apply ZrD)); exact HO_353002.out⟩, ⟨by (with_reducible repeat (first | refine ZbW ?_ _ | refine ZbD ?_ | refine ZbA ?_ _)); exact BK352.out⟩, ⟨by (with_reducible repeat (first | refine ZbW ?_ _ | refine ZbD ?_ | refine ZbA ?_ _)); exact BK403.out⟩, ⟨by repeat (first | (with_reducible exact HR404_2.out) | (with_reducible refine Kd.C_alloc ?_ _) | (with_reducible refine Kd.C_drewN ?_ _) | (with_reducible refine Kd.C_drew ?_) | exact HR404_2.out)⟩, ⟨by repeat (first | (with_reducible exact HR405_2.out) | (with_reducible refine Kd.C_alloc ?_ _) | (with_reducible refine Kd.C_drewN ?_ _) | (with_reducible refine Kd.C_drew ?_) | exact HR405_2.out)⟩, ⟨by repeat (first | exact ((Kd.V_reads' (by (with_reducible repeat (first | apply ZvA | apply ZvW | apply ZvD)); exact HL402_2.out)).2.2) | (with_reducible refine Kd.C_alloc ?_ _) | (with_reducible refine Kd.C_drewN ?_ _) | (with_reducible refine Kd.C_drew ?_))⟩, ⟨by repeat (first | (with_reducible first | exact HB.out | apply ZhA | apply ZhW | apply ZhD | refine ZhS ?_ GE352.out | refine ZhS ?_ GE403.out) | exact HB.out)⟩⟩
   case round =>
    clear H'
    try clear p2
    try clear c3
    try clear c4
    try clear p4
    try clear q4
    try clear hx4
    try clear c5
    try clear c6
    try clear p6
    try clear c40
    try clear p40
    try clear q40
    try clear hx40
    try clear c44
    try clear c44b0
    try clear c45
    try clear c45b0
    try clear c46
    try clear c46b0
    try clear c47
    try clear c47b0
    try clear c48
    try clear c48b0
    try clear c48b1
    try clear c49
    try clear c49b0
    try clear c49b1
    try clear c51
    try clear c53
    try clear hcz54_0
    try clear hcz54_1
    try clear hcz54_2
    try clear hcz58_0
    try clear hcz58_1
    try clear hcz58_2
    try clear hfz54_0
    try clear hfz54_1
    try clear hfz54_2
    try clear hfz58_0
    try clear hfz58_1
    try clear hfz58_2
    try clear hx402_0
    try clear hx402_1
    try clear hx402_2
    try clear hx404_0
    try clear hx404_1
    try clear hx404_2
    try clear hx405_0
    try clear hx405_1
    try clear hx405_2
    try clear hx406_0
    try clear hx406_1
    try clear hx406_2
    try clear p2
    try clear p402
    try clear p404
    try clear p405
    try clear p406
    try clear p6
    try clear q402
    try clear q404
    try clear q405
    try clear q406
    obtain ⟨x119_2, rfl, HA, HK2, HO_9, HO_80, HO_353002, BK352, BK403, HR404_2, HR405_2, HR406_2, HB⟩ := hrel
    cases gk with
    | zero => exact absurd HA.out (by simp [laws_FnSizes.l1])
    | succ k2 =>
     have H := HA.out
     clear HA
     simp only [laws_FnSizes.l1] at H
     by_cases c59 : x119_2 < (((rd_T82 y376 x82_1).f2).length : Int)
     rotate_left
     ·rw [if_neg c59] at H
      have c59b0 : decide (x119_2 < (((rd_T82 y376 x82_1).f2).length : Int)) = false := decide_eq_false c59
      clear c59
      have H' := Zam H
      clear H
      go_wp2
      go_roundg k2
      case measure => have := HK1.out; have := HK2.out; omega
      case rel => exact ⟨(wrap64 (x82_1 + 1)), (by first | rfl | (simp; done) | (simp [*]; done)), H', ⟨by have := HK1.out; have := HK2.out; omega⟩, ⟨by (with_reducible repeat (first | apply Kd.N_alloc | apply Kd.N_drewN | apply Kd.N_drew)); exact Kd.N_mono HO_9.out (fun _ hk => ⟨hk.1, ⟨hk.2.1, hk.2.2.1⟩⟩)⟩, ⟨by (with_reducible repeat (first | apply Kd.N_alloc | apply Kd.N_drewN | apply Kd.N_drew)); exact Kd.N_mono HO_80.out (fun _ hk => ⟨hk.1, ⟨hk.2.1, hk.2.2.1⟩⟩)⟩, ⟨by (with_reducible repeat (first | apply ZrA | apply ZrW | apply ZrD)); exact HO_353002.out⟩, ⟨by (with_reducible repeat (first | refine ZbW ?_ _ | refine ZbD ?_ | refine ZbA ?_ _)); exact BK352.out⟩, ⟨by repeat (first | (with_reducible first | exact HB.out | apply ZhA | apply ZhW | apply ZhD | refine ZhS ?_ GE352.out | refine ZhS ?_ GE403.out) | exact HB.out)⟩⟩
     rw [if_pos c59] at H
     have c59b0 : decide (x119_2 < (((rd_T82 y376 x82_1).f2).length : Int)) = true := decide_eq_true c59
     clear c59
     by_cases c60 : 0 ≤ x119_2
     rotate_left
     ·rw [if_neg c60] at H
      exact absurd H (by simp)
     rw [if_pos c60] at H
     have c60b0 : decide (0 ≤ x119_2) = true := decide_eq_true c60
     clear c60
     by_cases c61 : x119_2 < (((rd_T82 y376 x82_1).f2).length : Int)
     rotate_left
     ·rw [if_neg c61] at H
      exact absurd H (by simp)
     rw [if_pos c61] at H
     have c61b0 : decide (x119_2 < (((rd_T82 y376 x82_1).f2).length : Int)) = true := decide_eq_true c61
     clear c61
     by_cases c62 : (rd ((rd_T82 y376 x82_1).f2) x119_2) < t354
     rw [if_pos c62] at H
     have c62b0 : decide ((rd ((rd_T82 y376 x82_1).f2) x119_2) < t354) = true := decide_eq_true c62
     clear c62
     exact absurd (H.trans (congrArg some hr_)) (by decide)
     rw [if_neg c62] at H
     have c62b0 : decide ((rd ((rd_T82 y376 x82_1).f2) x119_2) < t354) = false := decide_eq_false c62
     clear c62
     by_cases c63 : (rd ((rd_T82 y376 x82_1).f2) x119_2) > t355
     rw [if_pos c63] at H
     have c63b0 : decide (t355 < (rd ((rd_T82 y376 x82_1).f2) x119_2)) = true := decide_eq_true c63
     clear c63
     exact absurd (H.trans (congrArg some hr_)) (by decide)
     ·rw [if_neg c63] at H
      have c63b0 : decide (t355 < (rd ((rd_T82 y376 x82_1).f2) x119_2)) = false := decide_eq_false c63
      clear c63
      have H' := Zam H
      clear H
      have p408 : 0 ≤ (x119_2 : Int) := of_decide_eq_true (by first | (with_reducible assumption) | assumption)
      have q408 : x119_2 < (((rd_T82 y376 x82_1).f2).length : Int) := of_decide_eq_true (by first | (with_reducible assumption) | assumption)
      obtain ⟨ad408, e408, hx408_0⟩ := Kd.at_int HR406_2.out x119_2 p408 q408
      cases e408
      replace p408 := eq_true p408
      replace q408 := eq_true q408
      go_wp2
      go_roundg k2
      case measure => have := HK1.out; have := HK2.out; omega
      case rel => exact ⟨(wrap64 (x119_2 + 1)), (by first | rfl | (simp; done) | (simp [*]; done)), H', ⟨by have := HK1.out; have := HK2.out; omega⟩, ⟨by (with_reducible repeat (first | apply Kd.N_alloc | apply Kd.N_drewN | apply Kd.N_drew)); exact HO_9.out⟩, ⟨by (with_reducible repeat (first | apply Kd.N_alloc | apply Kd.N_drewN | apply Kd.N_drew)); exact HO_80.out⟩, ⟨by (with_reducible repeat (first | apply ZrA | apply ZrW | apply ZrD)); exact HO_353002.out⟩, ⟨by (with_reducible repeat (first | refine ZbW ?_ _ | refine ZbD ?_ | refine ZbA ?_ _)); exact BK352.out⟩, ⟨by (with_reducible repeat (first | refine ZbW ?_ _ | refine ZbD ?_ | refine ZbA ?_ _)); exact BK403.out⟩, ⟨by repeat (first | (with_reducible exact HR404_2.out) | (with_reducible refine Kd.C_alloc ?_ _) | (with_reducible refine Kd.C_drewN ?_ _) | (with_reducible refine Kd.C_drew ?_) | exact HR404_2.out)⟩, ⟨by repeat (first | (with_reducible exact HR405_2.out) | (with_reducible refine Kd.C_alloc ?_ _) | (with_reducible refine Kd.C_drewN ?_ _) | (with_reducible refine Kd.C_drew ?_) | exact HR405_2.out)⟩, ⟨by repeat (first | (with_reducible exact HR406_2.out) | (with_reducible refine Kd.C_alloc ?_ _) | (with_reducible refine Kd.C_drewN ?_ _) | (with_reducible refine Kd.C_drew ?_) | exact HR406_2.out)⟩, ⟨by repeat (first | (with_reducible first | exact HB.out | apply ZhA | apply ZhW | apply ZhD | refine ZhS ?_ GE352.out | refine ZhS ?_ GE403.out) | exact HB.out)⟩⟩

/-- THE ONE PURE STATEMENT of laws_FnSizes: yours. -/
def laws_FnSizes.Pure : Prop := ∀ (l0 : List Int), l0.length ≤ maxLen → l0.length * 1 ≤ 140737488351232 → (∀ x ∈ l0, (Lit.int .u8 x).wf = true) → ∃ k, laws_FnSizes.f k l0 = some true
theorem laws_FnSizes.walk (P : laws_FnSizes.Pure) (a0 : Option Addr) (len0 cap0 : Nat) (z0 : List Int) (w : World) (w0 : (a0 = none ∧ len0 = 0 ∧ cap0 = 0 ∧ z0 = []) ∨ ∃ x, a0 = some x ∧ len0 ≤ cap0 ∧ cap0 ≤ maxLen ∧ z0.length = cap0 ∧ (∀ i, i < z0.length → w.cell? (x.add i) = some (.int .u8 (z0.getD i 0))) ∧ ∀ n ∈ z0, (Lit.int .u8 n).wf = true) (y0 : len0 * 1 ≤ 140737488351232) :
  Calls Try.prog 10 #[.slice a0 len0 cap0] w fun e w' => e = .returned (.bool true) ∧ Below w.heap.size w w' := by
 obtain ⟨l0, rfl, hr0, hm0, hw0, hc0⟩ := ReadsInt.ofRowC w0
 obtain ⟨k, h⟩ := P l0 hm0 y0 hw0
 refine (laws_FnSizes.calls k _ _ l0 true w (Kd.C_of_reads (d := (0 : Int)) (h1 := fun _ => rfl) hr0) hc0 h rfl).mono ?_
 rintro e w' ⟨rfl, hd⟩
 exact ⟨rfl, hd⟩

end Go.Proofs.Ytidblealnaicpaa.PFnSizes

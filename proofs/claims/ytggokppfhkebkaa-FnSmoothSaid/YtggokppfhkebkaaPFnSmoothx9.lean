-- written by myprint.py (a program of this session's over the kit's print)
import Derived.Test.YtggokppfhkebkaaPFnSmoothx0
import Derived.Test.YtggokppfhkebkaaPFnSmoothx1
import Derived.Test.YtggokppfhkebkaaPFnSmoothx4
import Derived.Test.YtggokppfhkebkaaPFnSmoothx5
import Derived.Test.YtggokppfhkebkaaPFnSmoothx8
namespace Go.Proofs.Ytggokppfhkebkaa.PFnSmooth
open Go.RowKit Go.Proofs.YtggokppfhkebkaaW.PrintWords Go.Proofs.YtggokppfhkebkaaW.PrintLast Go.Proofs.YtggokppfhkebkaaW.PrintMore
attribute [local go_sem] max2_int min2_int max_two min_two max_three min_three max_four min_four   -- for this text's walks alone
set_option linter.unusedVariables false
set_option linter.unusedSimpArgs false

/-! ### laws_FnSmooth: function 8 -/
mutual
def laws_FnSmooth.j0 : Nat → Int → Bool → Int → Int → List Int → Int → Int → List Int → Option (Bool)
  | 0, _, _, _, _, _, _, _, _ => none
  | k + 1, x4, x38, x278000, x278001, x278002, x284000, x284001, x284002 => if x38 = true then (some false) else (laws_FnSmooth.l0 k x4 (x284002.length : Int) 0 x278000 x278001 x278002 x284000 x284001 x284002)
def laws_FnSmooth.l0 : Nat → Int → Int → Int → Int → Int → List Int → Int → Int → List Int → Option (Bool)
  | 0, _, _, _, _, _, _, _, _, _ => none
  | k + 1, x4, x41, x42, x278000, x278001, x278002, x284000, x284001, x284002 => if x42 < x41 then (if 0 ≤ x42 then (if x42 < (x284002.length : Int) then (if x42 < (x278002.length : Int) then (if x278000 = 0 then (none) else (if (Int.tmod (Int.tmod x42 x278000) 4) = 0 then (laws_FnSmooth.j2 k x4 (wrap64 ((rd x284002 x42) - (rd x278002 x42))) (Int.tmod (wrap64 (Int.tdiv x42 x278000)) 4) 0 x41 x42 true x278000 x278001 x278002 x284000 x284001 x284002) else (laws_FnSmooth.j2 k x4 (wrap64 ((rd x284002 x42) - (rd x278002 x42))) (Int.tmod (wrap64 (Int.tdiv x42 x278000)) 4) 0 x41 x42 ((Int.tmod (Int.tmod x42 x278000) 4) == 3) x278000 x278001 x278002 x284000 x284001 x284002))) else (none)) else (none)) else (none)) else (some true)
def laws_FnSmooth.j2 : Nat → Int → Int → Int → Int → Int → Int → Bool → Int → Int → List Int → Int → Int → List Int → Option (Bool)
  | 0, _, _, _, _, _, _, _, _, _, _, _, _, _ => none
  | k + 1, x4, x8, x10, x11, x41, x42, x71, x278000, x278001, x278002, x284000, x284001, x284002 => if x71 = true then (laws_FnSmooth.j3 k x4 x8 x10 (wrap64 (x11 + 1)) x41 x42 x278000 x278001 x278002 x284000 x284001 x284002) else (laws_FnSmooth.j3 k x4 x8 x10 x11 x41 x42 x278000 x278001 x278002 x284000 x284001 x284002)
def laws_FnSmooth.j3 : Nat → Int → Int → Int → Int → Int → Int → Int → Int → List Int → Int → Int → List Int → Option (Bool)
  | 0, _, _, _, _, _, _, _, _, _, _, _, _ => none
  | k + 1, x4, x8, x10, x11, x41, x42, x278000, x278001, x278002, x284000, x284001, x284002 => if x10 = 0 then (laws_FnSmooth.j4 k x4 x8 x11 x41 x42 true x278000 x278001 x278002 x284000 x284001 x284002) else (laws_FnSmooth.j4 k x4 x8 x11 x41 x42 (x10 == 3) x278000 x278001 x278002 x284000 x284001 x284002)
def laws_FnSmooth.j4 : Nat → Int → Int → Int → Int → Int → Bool → Int → Int → List Int → Int → Int → List Int → Option (Bool)
  | 0, _, _, _, _, _, _, _, _, _, _, _, _ => none
  | k + 1, x4, x8, x11, x41, x42, x79, x278000, x278001, x278002, x284000, x284001, x284002 => if x79 = true then (laws_FnSmooth.j5 k x4 x8 (wrap64 (x11 + 1)) x41 x42 x278000 x278001 x278002 x284000 x284001 x284002) else (laws_FnSmooth.j5 k x4 x8 x11 x41 x42 x278000 x278001 x278002 x284000 x284001 x284002)
def laws_FnSmooth.j5 : Nat → Int → Int → Int → Int → Int → Int → Int → List Int → Int → Int → List Int → Option (Bool)
  | 0, _, _, _, _, _, _, _, _, _, _, _ => none
  | k + 1, x4, x8, x11, x41, x42, x278000, x278001, x278002, x284000, x284001, x284002 => if x8 < 0 then (if (wrap64 (-x8)) > (wrap64 (x11 * (wrap64 ((wrap64 (Int.tdiv x4 4)) + 1)))) then (some false) else (if (wrap64 (-x8)) > 0 then (if x4 < 8 then (some false) else (laws_FnSmooth.l0 k x4 x41 (wrap64 (x42 + 1)) x278000 x278001 x278002 x284000 x284001 x284002)) else (laws_FnSmooth.l0 k x4 x41 (wrap64 (x42 + 1)) x278000 x278001 x278002 x284000 x284001 x284002))) else (if x8 > (wrap64 (x11 * (wrap64 ((wrap64 (Int.tdiv x4 4)) + 1)))) then (some false) else (if x8 > 0 then (if x4 < 8 then (some false) else (laws_FnSmooth.l0 k x4 x41 (wrap64 (x42 + 1)) x278000 x278001 x278002 x284000 x284001 x284002)) else (laws_FnSmooth.l0 k x4 x41 (wrap64 (x42 + 1)) x278000 x278001 x278002 x284000 x284001 x284002)))
end
def laws_FnSmooth.f (k : Nat) (l0 : List Int) : Option (Bool) := if (l0.length : Int) > 1048576 then (some true) else ((spec_DrawSmooth.f k l0).bind fun bt271 => ((impl_Smooth.f k bt271.1 bt271.2.1 bt271.2.2.1 bt271.2.2.2).bind fun bt278 => ((spec_Smooth.f k bt271.1 bt271.2.1 bt271.2.2.1 bt271.2.2.2).bind fun bt284 => (if bt278.1 = bt284.1 then ((laws_wInts.f k bt278.2.2 bt284.2.2).bind fun t290 => (laws_FnSmooth.j0 k bt271.2.2.2 (!t290) bt271.1 bt271.2.1 bt271.2.2.1 bt278.1 bt278.2.1 bt278.2.2)) else (laws_FnSmooth.j0 k bt271.2.2.2 true bt271.1 bt271.2.1 bt271.2.2.1 bt278.1 bt278.2.1 bt278.2.2)))))
theorem laws_FnSmooth.mono_l : ∀ k, (∀ y0 y1 y2 y3 y4 y5 y6 y7, LeO (laws_FnSmooth.j0 k y0 y1 y2 y3 y4 y5 y6 y7) (laws_FnSmooth.j0 (k + 1) y0 y1 y2 y3 y4 y5 y6 y7)) ∧ (∀ y0 y1 y2 y3 y4 y5 y6 y7 y8, LeO (laws_FnSmooth.l0 k y0 y1 y2 y3 y4 y5 y6 y7 y8) (laws_FnSmooth.l0 (k + 1) y0 y1 y2 y3 y4 y5 y6 y7 y8)) ∧ (∀ y0 y1 y2 y3 y4 y5 y6 y7 y8 y9 y10 y11 y12, LeO (laws_FnSmooth.j2 k y0 y1 y2 y3 y4 y5 y6 y7 y8 y9 y10 y11 y12) (laws_FnSmooth.j2 (k + 1) y0 y1 y2 y3 y4 y5 y6 y7 y8 y9 y10 y11 y12)) ∧ (∀ y0 y1 y2 y3 y4 y5 y6 y7 y8 y9 y10 y11, LeO (laws_FnSmooth.j3 k y0 y1 y2 y3 y4 y5 y6 y7 y8 y9 y10 y11) (laws_FnSmooth.j3 (k + 1) y0 y1 y2 y3 y4 y5 y6 y7 y8 y9 y10 y11)) ∧ (∀ y0 y1 y2 y3 y4 y5 y6 y7 y8 y9 y10 y11, LeO (laws_FnSmooth.j4 k y0 y1 y2 y3 y4 y5 y6 y7 y8 y9 y10 y11) (laws_FnSmooth.j4 (k + 1) y0 y1 y2 y3 y4 y5 y6 y7 y8 y9 y10 y11)) ∧ (∀ y0 y1 y2 y3 y4 y5 y6 y7 y8 y9 y10, LeO (laws_FnSmooth.j5 k y0 y1 y2 y3 y4 y5 y6 y7 y8 y9 y10) (laws_FnSmooth.j5 (k + 1) y0 y1 y2 y3 y4 y5 y6 y7 y8 y9 y10))
  | 0 => ⟨fun _ _ _ _ _ _ _ _ r h => by simp [laws_FnSmooth.j0] at h, fun _ _ _ _ _ _ _ _ _ r h => by simp [laws_FnSmooth.l0] at h, fun _ _ _ _ _ _ _ _ _ _ _ _ _ r h => by simp [laws_FnSmooth.j2] at h, fun _ _ _ _ _ _ _ _ _ _ _ _ r h => by simp [laws_FnSmooth.j3] at h, fun _ _ _ _ _ _ _ _ _ _ _ _ r h => by simp [laws_FnSmooth.j4] at h, fun _ _ _ _ _ _ _ _ _ _ _ r h => by simp [laws_FnSmooth.j5] at h⟩
  | k + 1 => by
    obtain ⟨ih0, ih1, ih2, ih3, ih4, ih5⟩ := laws_FnSmooth.mono_l k
    refine ⟨?_, ?_, ?_, ?_, ?_, ?_⟩
    · intro y0 y1 y2 y3 y4 y5 y6 y7
      unfold laws_FnSmooth.j0
      repeat' first
      | (with_reducible exact ih0 _ _ _ _ _ _ _ _)
      | (with_reducible exact ih1 _ _ _ _ _ _ _ _ _)
      | (with_reducible exact ih2 _ _ _ _ _ _ _ _ _ _ _ _ _)
      | (with_reducible exact ih3 _ _ _ _ _ _ _ _ _ _ _ _)
      | (with_reducible exact ih4 _ _ _ _ _ _ _ _ _ _ _ _)
      | (with_reducible exact ih5 _ _ _ _ _ _ _ _ _ _ _)
      | (with_reducible exact impl_Smooth.mono _ _ _ _ _)
      | (with_reducible exact laws_wInts.mono _ _ _)
      | (with_reducible exact spec_DrawSmooth.mono _ _)
      | (with_reducible exact spec_Smooth.mono _ _ _ _ _)
      | (with_reducible exact LeO.refl _)
      | (with_reducible exact LeO.none _)
      | (with_reducible refine LeO.ite ?_ ?_)
      | (with_reducible refine LeO.bind ?_ (fun _ => ?_))
      | exact ih0 _ _ _ _ _ _ _ _
      | exact ih1 _ _ _ _ _ _ _ _ _
      | exact ih2 _ _ _ _ _ _ _ _ _ _ _ _ _
      | exact ih3 _ _ _ _ _ _ _ _ _ _ _ _
      | exact ih4 _ _ _ _ _ _ _ _ _ _ _ _
      | exact ih5 _ _ _ _ _ _ _ _ _ _ _
      | exact impl_Smooth.mono _ _ _ _ _
      | exact laws_wInts.mono _ _ _
      | exact spec_DrawSmooth.mono _ _
      | exact spec_Smooth.mono _ _ _ _ _
      | exact LeO.none _
      | refine LeO.ite ?_ ?_
      | refine LeO.bind ?_ (fun _ => ?_)
    · intro y0 y1 y2 y3 y4 y5 y6 y7 y8
      unfold laws_FnSmooth.l0
      repeat' first
      | (with_reducible exact ih0 _ _ _ _ _ _ _ _)
      | (with_reducible exact ih1 _ _ _ _ _ _ _ _ _)
      | (with_reducible exact ih2 _ _ _ _ _ _ _ _ _ _ _ _ _)
      | (with_reducible exact ih3 _ _ _ _ _ _ _ _ _ _ _ _)
      | (with_reducible exact ih4 _ _ _ _ _ _ _ _ _ _ _ _)
      | (with_reducible exact ih5 _ _ _ _ _ _ _ _ _ _ _)
      | (with_reducible exact impl_Smooth.mono _ _ _ _ _)
      | (with_reducible exact laws_wInts.mono _ _ _)
      | (with_reducible exact spec_DrawSmooth.mono _ _)
      | (with_reducible exact spec_Smooth.mono _ _ _ _ _)
      | (with_reducible exact LeO.refl _)
      | (with_reducible exact LeO.none _)
      | (with_reducible refine LeO.ite ?_ ?_)
      | (with_reducible refine LeO.bind ?_ (fun _ => ?_))
      | exact ih0 _ _ _ _ _ _ _ _
      | exact ih1 _ _ _ _ _ _ _ _ _
      | exact ih2 _ _ _ _ _ _ _ _ _ _ _ _ _
      | exact ih3 _ _ _ _ _ _ _ _ _ _ _ _
      | exact ih4 _ _ _ _ _ _ _ _ _ _ _ _
      | exact ih5 _ _ _ _ _ _ _ _ _ _ _
      | exact impl_Smooth.mono _ _ _ _ _
      | exact laws_wInts.mono _ _ _
      | exact spec_DrawSmooth.mono _ _
      | exact spec_Smooth.mono _ _ _ _ _
      | exact LeO.none _
      | refine LeO.ite ?_ ?_
      | refine LeO.bind ?_ (fun _ => ?_)
    · intro y0 y1 y2 y3 y4 y5 y6 y7 y8 y9 y10 y11 y12
      unfold laws_FnSmooth.j2
      repeat' first
      | (with_reducible exact ih0 _ _ _ _ _ _ _ _)
      | (with_reducible exact ih1 _ _ _ _ _ _ _ _ _)
      | (with_reducible exact ih2 _ _ _ _ _ _ _ _ _ _ _ _ _)
      | (with_reducible exact ih3 _ _ _ _ _ _ _ _ _ _ _ _)
      | (with_reducible exact ih4 _ _ _ _ _ _ _ _ _ _ _ _)
      | (with_reducible exact ih5 _ _ _ _ _ _ _ _ _ _ _)
      | (with_reducible exact impl_Smooth.mono _ _ _ _ _)
      | (with_reducible exact laws_wInts.mono _ _ _)
      | (with_reducible exact spec_DrawSmooth.mono _ _)
      | (with_reducible exact spec_Smooth.mono _ _ _ _ _)
      | (with_reducible exact LeO.refl _)
      | (with_reducible exact LeO.none _)
      | (with_reducible refine LeO.ite ?_ ?_)
      | (with_reducible refine LeO.bind ?_ (fun _ => ?_))
      | exact ih0 _ _ _ _ _ _ _ _
      | exact ih1 _ _ _ _ _ _ _ _ _
      | exact ih2 _ _ _ _ _ _ _ _ _ _ _ _ _
      | exact ih3 _ _ _ _ _ _ _ _ _ _ _ _
      | exact ih4 _ _ _ _ _ _ _ _ _ _ _ _
      | exact ih5 _ _ _ _ _ _ _ _ _ _ _
      | exact impl_Smooth.mono _ _ _ _ _
      | exact laws_wInts.mono _ _ _
      | exact spec_DrawSmooth.mono _ _
      | exact spec_Smooth.mono _ _ _ _ _
      | exact LeO.none _
      | refine LeO.ite ?_ ?_
      | refine LeO.bind ?_ (fun _ => ?_)
    · intro y0 y1 y2 y3 y4 y5 y6 y7 y8 y9 y10 y11
      unfold laws_FnSmooth.j3
      repeat' first
      | (with_reducible exact ih0 _ _ _ _ _ _ _ _)
      | (with_reducible exact ih1 _ _ _ _ _ _ _ _ _)
      | (with_reducible exact ih2 _ _ _ _ _ _ _ _ _ _ _ _ _)
      | (with_reducible exact ih3 _ _ _ _ _ _ _ _ _ _ _ _)
      | (with_reducible exact ih4 _ _ _ _ _ _ _ _ _ _ _ _)
      | (with_reducible exact ih5 _ _ _ _ _ _ _ _ _ _ _)
      | (with_reducible exact impl_Smooth.mono _ _ _ _ _)
      | (with_reducible exact laws_wInts.mono _ _ _)
      | (with_reducible exact spec_DrawSmooth.mono _ _)
      | (with_reducible exact spec_Smooth.mono _ _ _ _ _)
      | (with_reducible exact LeO.refl _)
      | (with_reducible exact LeO.none _)
      | (with_reducible refine LeO.ite ?_ ?_)
      | (with_reducible refine LeO.bind ?_ (fun _ => ?_))
      | exact ih0 _ _ _ _ _ _ _ _
      | exact ih1 _ _ _ _ _ _ _ _ _
      | exact ih2 _ _ _ _ _ _ _ _ _ _ _ _ _
      | exact ih3 _ _ _ _ _ _ _ _ _ _ _ _
      | exact ih4 _ _ _ _ _ _ _ _ _ _ _ _
      | exact ih5 _ _ _ _ _ _ _ _ _ _ _
      | exact impl_Smooth.mono _ _ _ _ _
      | exact laws_wInts.mono _ _ _
      | exact spec_DrawSmooth.mono _ _
      | exact spec_Smooth.mono _ _ _ _ _
      | exact LeO.none _
      | refine LeO.ite ?_ ?_
      | refine LeO.bind ?_ (fun _ => ?_)
    · intro y0 y1 y2 y3 y4 y5 y6 y7 y8 y9 y10 y11
      unfold laws_FnSmooth.j4
      repeat' first
      | (with_reducible exact ih0 _ _ _ _ _ _ _ _)
      | (with_reducible exact ih1 _ _ _ _ _ _ _ _ _)
      | (with_reducible exact ih2 _ _ _ _ _ _ _ _ _ _ _ _ _)
      | (with_reducible exact ih3 _ _ _ _ _ _ _ _ _ _ _ _)
      | (with_reducible exact ih4 _ _ _ _ _ _ _ _ _ _ _ _)
      | (with_reducible exact ih5 _ _ _ _ _ _ _ _ _ _ _)
      | (with_reducible exact impl_Smooth.mono _ _ _ _ _)
      | (with_reducible exact laws_wInts.mono _ _ _)
      | (with_reducible exact spec_DrawSmooth.mono _ _)
      | (with_reducible exact spec_Smooth.mono _ _ _ _ _)
      | (with_reducible exact LeO.refl _)
      | (with_reducible exact LeO.none _)
      | (with_reducible refine LeO.ite ?_ ?_)
      | (with_reducible refine LeO.bind ?_ (fun _ => ?_))
      | exact ih0 _ _ _ _ _ _ _ _
      | exact ih1 _ _ _ _ _ _ _ _ _
      | exact ih2 _ _ _ _ _ _ _ _ _ _ _ _ _
      | exact ih3 _ _ _ _ _ _ _ _ _ _ _ _
      | exact ih4 _ _ _ _ _ _ _ _ _ _ _ _
      | exact ih5 _ _ _ _ _ _ _ _ _ _ _
      | exact impl_Smooth.mono _ _ _ _ _
      | exact laws_wInts.mono _ _ _
      | exact spec_DrawSmooth.mono _ _
      | exact spec_Smooth.mono _ _ _ _ _
      | exact LeO.none _
      | refine LeO.ite ?_ ?_
      | refine LeO.bind ?_ (fun _ => ?_)
    · intro y0 y1 y2 y3 y4 y5 y6 y7 y8 y9 y10
      unfold laws_FnSmooth.j5
      repeat' first
      | (with_reducible exact ih0 _ _ _ _ _ _ _ _)
      | (with_reducible exact ih1 _ _ _ _ _ _ _ _ _)
      | (with_reducible exact ih2 _ _ _ _ _ _ _ _ _ _ _ _ _)
      | (with_reducible exact ih3 _ _ _ _ _ _ _ _ _ _ _ _)
      | (with_reducible exact ih4 _ _ _ _ _ _ _ _ _ _ _ _)
      | (with_reducible exact ih5 _ _ _ _ _ _ _ _ _ _ _)
      | (with_reducible exact impl_Smooth.mono _ _ _ _ _)
      | (with_reducible exact laws_wInts.mono _ _ _)
      | (with_reducible exact spec_DrawSmooth.mono _ _)
      | (with_reducible exact spec_Smooth.mono _ _ _ _ _)
      | (with_reducible exact LeO.refl _)
      | (with_reducible exact LeO.none _)
      | (with_reducible refine LeO.ite ?_ ?_)
      | (with_reducible refine LeO.bind ?_ (fun _ => ?_))
      | exact ih0 _ _ _ _ _ _ _ _
      | exact ih1 _ _ _ _ _ _ _ _ _
      | exact ih2 _ _ _ _ _ _ _ _ _ _ _ _ _
      | exact ih3 _ _ _ _ _ _ _ _ _ _ _ _
      | exact ih4 _ _ _ _ _ _ _ _ _ _ _ _
      | exact ih5 _ _ _ _ _ _ _ _ _ _ _
      | exact impl_Smooth.mono _ _ _ _ _
      | exact laws_wInts.mono _ _ _
      | exact spec_DrawSmooth.mono _ _
      | exact spec_Smooth.mono _ _ _ _ _
      | exact LeO.none _
      | refine LeO.ite ?_ ?_
      | refine LeO.bind ?_ (fun _ => ?_)
theorem laws_FnSmooth.mono : ∀ a0 k, LeO (laws_FnSmooth.f k a0) (laws_FnSmooth.f (k + 1) a0) := by
  intro a0 k
  obtain ⟨ih0, ih1, ih2, ih3, ih4, ih5⟩ := laws_FnSmooth.mono_l k
  unfold laws_FnSmooth.f
  repeat' first
      | (with_reducible exact ih0 _ _ _ _ _ _ _ _)
      | (with_reducible exact ih1 _ _ _ _ _ _ _ _ _)
      | (with_reducible exact ih2 _ _ _ _ _ _ _ _ _ _ _ _ _)
      | (with_reducible exact ih3 _ _ _ _ _ _ _ _ _ _ _ _)
      | (with_reducible exact ih4 _ _ _ _ _ _ _ _ _ _ _ _)
      | (with_reducible exact ih5 _ _ _ _ _ _ _ _ _ _ _)
      | (with_reducible exact impl_Smooth.mono _ _ _ _ _)
      | (with_reducible exact laws_wInts.mono _ _ _)
      | (with_reducible exact spec_DrawSmooth.mono _ _)
      | (with_reducible exact spec_Smooth.mono _ _ _ _ _)
      | (with_reducible exact LeO.refl _)
      | (with_reducible exact LeO.none _)
      | (with_reducible refine LeO.ite ?_ ?_)
      | (with_reducible refine LeO.bind ?_ (fun _ => ?_))
      | exact ih0 _ _ _ _ _ _ _ _
      | exact ih1 _ _ _ _ _ _ _ _ _
      | exact ih2 _ _ _ _ _ _ _ _ _ _ _ _ _
      | exact ih3 _ _ _ _ _ _ _ _ _ _ _ _
      | exact ih4 _ _ _ _ _ _ _ _ _ _ _ _
      | exact ih5 _ _ _ _ _ _ _ _ _ _ _
      | exact impl_Smooth.mono _ _ _ _ _
      | exact laws_wInts.mono _ _ _
      | exact spec_DrawSmooth.mono _ _
      | exact spec_Smooth.mono _ _ _ _ _
      | exact LeO.none _
      | refine LeO.ite ?_ ?_
      | refine LeO.bind ?_ (fun _ => ?_)
set_option maxHeartbeats 8000000 in
set_option maxRecDepth 100000 in
theorem laws_FnSmooth.calls (k : Nat) (A0 : Option Addr) (c0 : Nat) (l0 : List Int) (r : Bool) (w : World) (hr0 : Kd.C (Kd.int .u8) w A0 l0.length l0) (hc0 : l0.length ≤ c0) (h : laws_FnSmooth.f k l0 = some r) :
    Calls Try.prog 8 #[.slice A0 l0.length c0] w fun e w' => e = .returned (.bool r) ∧ Below w.heap.size w w' := by
  have hu66 := Try.underlying66
  have HR0 := Aside0.mk hr0
  have HC0 := Aside0.mk hc0
  clear hr0 hc0
  have HB := Aside0.mk (Below.refl w.heap.size w)
  have H : (if (l0.length : Int) > 1048576 then (some true) else ((spec_DrawSmooth.f k l0).bind fun bt271 => ((impl_Smooth.f k bt271.1 bt271.2.1 bt271.2.2.1 bt271.2.2.2).bind fun bt278 => ((spec_Smooth.f k bt271.1 bt271.2.1 bt271.2.2.1 bt271.2.2.2).bind fun bt284 => (if bt278.1 = bt284.1 then ((laws_wInts.f k bt278.2.2 bt284.2.2).bind fun t290 => (laws_FnSmooth.j0 k bt271.2.2.2 (!t290) bt271.1 bt271.2.1 bt271.2.2.1 bt278.1 bt278.2.1 bt278.2.2)) else (laws_FnSmooth.j0 k bt271.2.2.2 true bt271.1 bt271.2.1 bt271.2.2.1 bt278.1 bt278.2.1 bt278.2.2)))))) = some r := h
  clear h
  by_cases c2 : (l0.length : Int) > 1048576
  · rw [if_pos c2] at H
    have c2b0 : decide (1048576 < (l0.length : Int)) = true := decide_eq_true c2
    have c2b1 : decide (1048576 < l0.length) = true := decide_eq_true (by omega)
    have c2b2 : 1048576 < l0.length := by omega
    clear c2
    obtain rfl := Option.some.inj H
    go_enter Try.func8, Try.ntmps8
    go_wp2
    repeat (go_quiet (fail); try go_wp2)
    go_ret
    exact ⟨by first | rfl | (simp [errW_none, errW_some] <;> rfl) | (simp [*, errW_none, errW_some] <;> rfl), by repeat (first | (with_reducible first | exact HB.out | apply below_alloc | apply pw_below_drewN | apply below_drew1) | exact HB.out)⟩
  rw [if_neg c2] at H
  have c2b0 : decide (1048576 < (l0.length : Int)) = false := decide_eq_false c2
  have c2b1 : decide (1048576 < l0.length) = false := decide_eq_false (by omega)
  have c2b2 : ¬ (1048576 < l0.length) := by omega
  clear c2
  replace H := Option.bind_eq_some_iff.mp H
  obtain ⟨⟨t271, t272, t273, t276⟩, A30, H⟩ := H
  replace H : ((impl_Smooth.f k t271 t272 t273 t276).bind fun bt278 => ((spec_Smooth.f k t271 t272 t273 t276).bind fun bt284 => (if bt278.1 = bt284.1 then ((laws_wInts.f k bt278.2.2 bt284.2.2).bind fun t290 => (laws_FnSmooth.j0 k t276 (!t290) t271 t272 t273 bt278.1 bt278.2.1 bt278.2.2)) else (laws_FnSmooth.j0 k t276 true t271 t272 t273 bt278.1 bt278.2.1 bt278.2.2)))) = some r := H
  have A3 := Aside0.mk A30
  clear A30
  replace H := Option.bind_eq_some_iff.mp H
  obtain ⟨⟨t278, t279, t280⟩, A40, H⟩ := H
  replace H : ((spec_Smooth.f k t271 t272 t273 t276).bind fun bt284 => (if t278 = bt284.1 then ((laws_wInts.f k t280 bt284.2.2).bind fun t290 => (laws_FnSmooth.j0 k t276 (!t290) t271 t272 t273 t278 t279 t280)) else (laws_FnSmooth.j0 k t276 true t271 t272 t273 t278 t279 t280))) = some r := H
  have A4 := Aside0.mk A40
  clear A40
  replace H := Option.bind_eq_some_iff.mp H
  obtain ⟨⟨t284, t285, t286⟩, A50, H⟩ := H
  replace H : (if t278 = t284 then ((laws_wInts.f k t280 t286).bind fun t290 => (laws_FnSmooth.j0 k t276 (!t290) t271 t272 t273 t278 t279 t280)) else (laws_FnSmooth.j0 k t276 true t271 t272 t273 t278 t279 t280)) = some r := H
  have A5 := Aside0.mk A50
  clear A50
  have HC6 := Aside0.mk H
  clear H
  go_enter Try.func8, Try.ntmps8
  go_upto_region 6 with (first | (go_at_call 44; (with_reducible refine (spec_DrawSmooth.calls k _ _ l0 t271 t272 t273 t276 _ ?side1 ?side2 A3.out).mono ?_); (case side1 => repeat (first | exact HR0.out | (with_reducible refine Kd.C_alloc ?_ _) | (with_reducible refine Kd.C_drewN ?_ _) | (with_reducible refine Kd.C_drew ?_))); (case side2 => exact HC0.out); rintro e w7 ⟨v274, rfl, ho0, hb⟩; have n0_ := Aside0.mk (Kd.R_lower ho0 (below_size (by repeat (first | (with_reducible first | exact HB.out | apply below_alloc | apply pw_below_drewN | apply below_drew1) | exact HB.out)))); have n1_ := Aside0.mk (below_step (by repeat (first | (with_reducible first | exact HB.out | apply below_alloc | apply pw_below_drewN | apply below_drew1) | exact HB.out)) hb); clear HB; have HO275 := n0_; have HB := n1_; clear n0_ n1_; (try clear hb); (try clear hb2); (try clear hk); (try clear hi); (try clear ho0)) | ((with_reducible refine gate_dst (N := 3) rfl ?_); refine box_event ?hg (N := 3) ?hd (cs := #[.int .i64 0, .int .i64 0, .slice none 0 0]) (t := 66) ?hr ?_; (case hd => rfl); (case hg => rfl); (case hr => first | (go_simp; done) | (go_simp; rfl)); intro gb277 hg w8 hbox hb; have n0_ := Aside0.mk (Kd.R_below (by (with_reducible repeat (first | apply Kd.R_alloc | apply Kd.R_drewN | apply Kd.R_drew)); exact HO275.out) hb); have n1_ := Aside0.mk (below_step (by repeat (first | (with_reducible first | exact HB.out | apply below_alloc | apply pw_below_drewN | apply below_drew1) | exact HB.out)) hb); have n2_ := Aside0.mk (hbox); have n3_ := Aside0.mk ((by rw [hg]; exact (below_size (by repeat (first | (with_reducible first | exact HB.out | apply below_alloc | apply pw_below_drewN | apply below_drew1) | exact HB.out))) : w.heap.size ≤ gb277)); have n4_ := n3_; clear HO275; clear HB; have HO275 := n0_; have HB := n1_; have BK277 := n2_; have GW277 := n3_; have GE277 := n4_; clear n0_ n1_ n2_ n3_ n4_; clear hb hbox hg; have hcz9_0 : w8.cell? ⟨gb277, 0, none⟩ = some (.int .i64 0) := (blk_cell BK277.out 0).trans rfl; have hcz9_1 : w8.cell? ⟨gb277, 1, none⟩ = some (.int .i64 0) := (blk_cell BK277.out 1).trans rfl; have hcz9_2 : w8.cell? ⟨gb277, 2, none⟩ = some (.slice none 0 0) := (blk_cell BK277.out 2).trans rfl; have hfz9_0 := blk_frozen BK277.out 0; have hfz9_1 := blk_frozen BK277.out 1; have hfz9_2 := blk_frozen BK277.out 2; obtain ⟨Ao10, co10, eo10⟩ := Kd.R_slice HO275.out; subst eo10) | (go_at_call 45; (with_reducible refine (impl_Smooth.calls k t271 t272 _ _ t273 t276 t278 t279 t280 _ ?side1 ?side2 A4.out).mono ?_); (case side1 => refine (Kd.R_reads' (e := 3) (base := w.heap.size) (ok := fun k_ => True) (n := t273.length) (c := co10) ?_).2.2; exact (by (with_reducible repeat (first | apply Kd.R_alloc | apply Kd.R_drewN | apply Kd.R_drew)); exact (Kd.R_mono (Kd.R_far (p := ⟨gb277, 2, none⟩) (Kd.R_far (p := ⟨gb277, 1, none⟩) (Kd.R_far (p := ⟨gb277, 0, none⟩) (Kd.R_types HO275.out BK277.out (by decide)) (fun _ hk => hk.2) (.int .i64 t271)) (fun _ hk => hk.2) (.int .i64 t272)) (fun _ hk => hk.2) (.slice Ao10 t273.length co10)) (fun _ h_ => h_.1)))); (case side2 => exact (Kd.R_reads' HO275.out).2.1); rintro e w11 ⟨v281, rfl, ho0, hb⟩; have n0_ := Aside0.mk (Kd.R_elder' (by (with_reducible repeat (first | apply Kd.R_alloc | apply Kd.R_drewN | apply Kd.R_drew)); exact (Kd.R_mono (Kd.R_far (p := ⟨gb277, 2, none⟩) (Kd.R_far (p := ⟨gb277, 1, none⟩) (Kd.R_far (p := ⟨gb277, 0, none⟩) (Kd.R_types HO275.out BK277.out (by decide)) (fun _ hk => hk.2) (.int .i64 t271)) (fun _ hk => hk.2) (.int .i64 t272)) (fun _ hk => hk.2) (.slice Ao10 t273.length co10)) (fun _ h_ => h_.1))) (Kd.R_base ho0) hb); have n1_ := Aside0.mk (Kd.R_lower (Kd.R_new' ho0 (Kd.R_lt (by (with_reducible repeat (first | apply Kd.R_alloc | apply Kd.R_drewN | apply Kd.R_drew)); exact (Kd.R_mono (Kd.R_far (p := ⟨gb277, 2, none⟩) (Kd.R_far (p := ⟨gb277, 1, none⟩) (Kd.R_far (p := ⟨gb277, 0, none⟩) (Kd.R_types HO275.out BK277.out (by decide)) (fun _ hk => hk.2) (.int .i64 t271)) (fun _ hk => hk.2) (.int .i64 t272)) (fun _ hk => hk.2) (.slice Ao10 t273.length co10)) (fun _ h_ => h_.1))))) (below_size (by repeat (first | (with_reducible first | exact HB.out | apply below_alloc | apply pw_below_drewN | apply below_drew1 | refine below_set ?_ GE277.out) | exact HB.out)))); have n2_ := Aside0.mk (blk_below (g := gb277) (o := .cells #[.int .i64 t271, .int .i64 t272, .slice Ao10 t273.length co10] 66 (0, 0)) (by (with_reducible repeat (first | refine blk_drewN ?_ _ | refine blk_drew ?_ | refine blk_alloc ?_ _)); refine blk_put (cs := #[.int .i64 t271, .int .i64 t272, .slice none 0 0]) ?_ 2 _ rfl; (with_reducible repeat (first | refine blk_drewN ?_ _ | refine blk_drew ?_ | refine blk_alloc ?_ _)); refine blk_put (cs := #[.int .i64 t271, .int .i64 0, .slice none 0 0]) ?_ 1 _ rfl; (with_reducible repeat (first | refine blk_drewN ?_ _ | refine blk_drew ?_ | refine blk_alloc ?_ _)); refine blk_put (cs := #[.int .i64 0, .int .i64 0, .slice none 0 0]) ?_ 0 _ rfl; (with_reducible repeat (first | refine blk_drewN ?_ _ | refine blk_drew ?_ | refine blk_alloc ?_ _)); exact BK277.out) hb); have n3_ := Aside0.mk (below_step (by repeat (first | (with_reducible first | exact HB.out | apply below_alloc | apply pw_below_drewN | apply below_drew1 | refine below_set ?_ GE277.out) | exact HB.out)) hb); clear HO275; clear BK277; clear HB; have HO275 := n0_; have HO282 := n1_; have BK277 := n2_; have HB := n3_; clear n0_ n1_ n2_ n3_; (try clear hb); (try clear hb2); (try clear hk); (try clear hi); (try clear ho0)) | ((with_reducible refine gate_dst (N := 5) rfl ?_); refine box_event ?hg (N := 5) ?hd (cs := #[.int .i64 0, .int .i64 0, .slice none 0 0]) (t := 66) ?hr ?_; (case hd => rfl); (case hg => rfl); (case hr => first | (go_simp; done) | (go_simp; rfl)); intro gb283 hg w12 hbox hb; have n0_ := Aside0.mk (Kd.R_below (by (with_reducible repeat (first | apply Kd.R_alloc | apply Kd.R_drewN | apply Kd.R_drew)); exact HO275.out) hb); have n1_ := Aside0.mk (Kd.R_below (by (with_reducible repeat (first | apply Kd.R_alloc | apply Kd.R_drewN | apply Kd.R_drew)); exact HO282.out) hb); have n2_ := Aside0.mk (blk_below (g := gb277) (o := .cells #[.int .i64 t271, .int .i64 t272, .slice Ao10 t273.length co10] 66 (0, 0)) (by (with_reducible repeat (first | refine blk_drewN ?_ _ | refine blk_drew ?_ | refine blk_alloc ?_ _)); exact BK277.out) hb); have n3_ := Aside0.mk (below_step (by repeat (first | (with_reducible first | exact HB.out | apply below_alloc | apply pw_below_drewN | apply below_drew1 | refine below_set ?_ GE277.out) | exact HB.out)) hb); have n4_ := Aside0.mk (hbox); have n5_ := Aside0.mk ((by rw [hg]; exact (below_size (by repeat (first | (with_reducible first | exact HB.out | apply below_alloc | apply pw_below_drewN | apply below_drew1 | refine below_set ?_ GE277.out) | exact HB.out))) : w.heap.size ≤ gb283)); have n6_ := n5_; have n7_ := Aside0.mk ((by rw [hg]; exact Nat.ne_of_lt (blk_lt (g := gb277) (o := .cells #[.int .i64 t271, .int .i64 t272, .slice Ao10 t273.length co10] 66 (0, 0)) (by (with_reducible repeat (first | refine blk_drewN ?_ _ | refine blk_drew ?_ | refine blk_alloc ?_ _)); exact BK277.out)) : gb277 ≠ gb283)); have n8_ := Aside0.mk ((by rw [hg]; exact Nat.ne_of_gt (blk_lt (g := gb277) (o := .cells #[.int .i64 t271, .int .i64 t272, .slice Ao10 t273.length co10] 66 (0, 0)) (by (with_reducible repeat (first | refine blk_drewN ?_ _ | refine blk_drew ?_ | refine blk_alloc ?_ _)); exact BK277.out)) : gb283 ≠ gb277)); clear HO275; clear HO282; clear BK277; clear HB; have HO275 := n0_; have HO282 := n1_; have BK277 := n2_; have HB := n3_; have BK283 := n4_; have GW283 := n5_; have GE283 := n6_; have NB277_283 := n7_; have NB283_277 := n8_; clear n0_ n1_ n2_ n3_ n4_ n5_ n6_ n7_ n8_; clear hb hbox hg; have hnb13 := NB283_277.out; have hnc13 := NB277_283.out; have hcz14_0 : w12.cell? ⟨gb283, 0, none⟩ = some (.int .i64 0) := (blk_cell BK283.out 0).trans rfl; have hcz14_1 : w12.cell? ⟨gb283, 1, none⟩ = some (.int .i64 0) := (blk_cell BK283.out 1).trans rfl; have hcz14_2 : w12.cell? ⟨gb283, 2, none⟩ = some (.slice none 0 0) := (blk_cell BK283.out 2).trans rfl; have hfz14_0 := blk_frozen BK283.out 0; have hfz14_1 := blk_frozen BK283.out 1; have hfz14_2 := blk_frozen BK283.out 2; obtain ⟨Ao15, co15, eo15⟩ := Kd.R_slice HO282.out; subst eo15; have hcz16_0 : w12.cell? ⟨gb277, 0, none⟩ = some (.int .i64 t271) := (blk_cell BK277.out 0).trans rfl; have hcz16_1 : w12.cell? ⟨gb277, 1, none⟩ = some (.int .i64 t272) := (blk_cell BK277.out 1).trans rfl; have hcz16_2 : w12.cell? ⟨gb277, 2, none⟩ = some (.slice Ao10 t273.length co10) := (blk_cell BK277.out 2).trans rfl; have hfz16_0 := blk_frozen BK277.out 0; have hfz16_1 := blk_frozen BK277.out 1; have hfz16_2 := blk_frozen BK277.out 2) | (go_at_call 46; (with_reducible refine (spec_Smooth.calls k t271 t272 _ _ t273 t276 t284 t285 t286 _ ?side1 ?side2 A5.out).mono ?_); (case side1 => refine (Kd.R_reads' (e := 3) (base := w.heap.size) (ok := fun k_ => (True ∧ some k_ ≠ (.slice Ao15 t280.length co15 : Value).ownBlock)) (n := t273.length) (c := co10) ?_).2.2; exact (by (with_reducible repeat (first | apply Kd.R_alloc | apply Kd.R_drewN | apply Kd.R_drew)); exact (Kd.R_mono (Kd.R_far (p := ⟨gb283, 2, none⟩) (Kd.R_far (p := ⟨gb283, 1, none⟩) (Kd.R_far (p := ⟨gb283, 0, none⟩) (Kd.R_types HO275.out BK283.out (by decide)) (fun _ hk => hk.2) (.int .i64 t278)) (fun _ hk => hk.2) (.int .i64 t279)) (fun _ hk => hk.2) (.slice Ao15 t280.length co15)) (fun _ h_ => h_.1)))); (case side2 => exact (Kd.R_reads' HO275.out).2.1); rintro e w17 ⟨v287, rfl, ho0, hb⟩; have n0_ := Aside0.mk (Kd.R_elder' (by (with_reducible repeat (first | apply Kd.R_alloc | apply Kd.R_drewN | apply Kd.R_drew)); exact (Kd.R_mono (Kd.R_far (p := ⟨gb283, 2, none⟩) (Kd.R_far (p := ⟨gb283, 1, none⟩) (Kd.R_far (p := ⟨gb283, 0, none⟩) (Kd.R_types HO275.out BK283.out (by decide)) (fun _ hk => hk.2) (.int .i64 t278)) (fun _ hk => hk.2) (.int .i64 t279)) (fun _ hk => hk.2) (.slice Ao15 t280.length co15)) (fun _ h_ => h_.1))) (Kd.R_base ho0) hb); have n1_ := Aside0.mk (Kd.R_elder' (by (with_reducible repeat (first | apply Kd.R_alloc | apply Kd.R_drewN | apply Kd.R_drew)); exact (Kd.R_mono (Kd.R_far (p := ⟨gb283, 2, none⟩) (Kd.R_far (p := ⟨gb283, 1, none⟩) (Kd.R_far (p := ⟨gb283, 0, none⟩) (Kd.R_types HO282.out BK283.out (by decide)) (fun _ hk => hk.2) (.int .i64 t278)) (fun _ hk => hk.2) (.int .i64 t279)) (fun _ hk => hk.2) (.slice Ao15 t280.length co15)) (fun _ h_ => h_.1))) (Kd.R_base ho0) hb); have n2_ := Aside0.mk (Kd.R_lower (Kd.R_new' (Kd.R_new' ho0 (Kd.R_lt (by (with_reducible repeat (first | apply Kd.R_alloc | apply Kd.R_drewN | apply Kd.R_drew)); exact (Kd.R_mono (Kd.R_far (p := ⟨gb283, 2, none⟩) (Kd.R_far (p := ⟨gb283, 1, none⟩) (Kd.R_far (p := ⟨gb283, 0, none⟩) (Kd.R_types HO275.out BK283.out (by decide)) (fun _ hk => hk.2) (.int .i64 t278)) (fun _ hk => hk.2) (.int .i64 t279)) (fun _ hk => hk.2) (.slice Ao15 t280.length co15)) (fun _ h_ => h_.1))))) (Kd.R_lt (by (with_reducible repeat (first | apply Kd.R_alloc | apply Kd.R_drewN | apply Kd.R_drew)); exact (Kd.R_mono (Kd.R_far (p := ⟨gb283, 2, none⟩) (Kd.R_far (p := ⟨gb283, 1, none⟩) (Kd.R_far (p := ⟨gb283, 0, none⟩) (Kd.R_types HO282.out BK283.out (by decide)) (fun _ hk => hk.2) (.int .i64 t278)) (fun _ hk => hk.2) (.int .i64 t279)) (fun _ hk => hk.2) (.slice Ao15 t280.length co15)) (fun _ h_ => h_.1))))) (below_size (by repeat (first | (with_reducible first | exact HB.out | apply below_alloc | apply pw_below_drewN | apply below_drew1 | refine below_set ?_ GE277.out | refine below_set ?_ GE283.out) | exact HB.out)))); have n3_ := Aside0.mk (blk_below (g := gb277) (o := .cells #[.int .i64 t271, .int .i64 t272, .slice Ao10 t273.length co10] 66 (0, 0)) (by (with_reducible repeat (first | refine blk_drewN ?_ _ | refine blk_drew ?_ | refine blk_alloc ?_ _)); refine blk_far ?_ NB277_283.out _; (with_reducible repeat (first | refine blk_drewN ?_ _ | refine blk_drew ?_ | refine blk_alloc ?_ _)); refine blk_far ?_ NB277_283.out _; (with_reducible repeat (first | refine blk_drewN ?_ _ | refine blk_drew ?_ | refine blk_alloc ?_ _)); refine blk_far ?_ NB277_283.out _; (with_reducible repeat (first | refine blk_drewN ?_ _ | refine blk_drew ?_ | refine blk_alloc ?_ _)); exact BK277.out) hb); have n4_ := Aside0.mk (blk_below (g := gb283) (o := .cells #[.int .i64 t278, .int .i64 t279, .slice Ao15 t280.length co15] 66 (0, 0)) (by (with_reducible repeat (first | refine blk_drewN ?_ _ | refine blk_drew ?_ | refine blk_alloc ?_ _)); refine blk_put (cs := #[.int .i64 t278, .int .i64 t279, .slice none 0 0]) ?_ 2 _ rfl; (with_reducible repeat (first | refine blk_drewN ?_ _ | refine blk_drew ?_ | refine blk_alloc ?_ _)); refine blk_put (cs := #[.int .i64 t278, .int .i64 0, .slice none 0 0]) ?_ 1 _ rfl; (with_reducible repeat (first | refine blk_drewN ?_ _ | refine blk_drew ?_ | refine blk_alloc ?_ _)); refine blk_put (cs := #[.int .i64 0, .int .i64 0, .slice none 0 0]) ?_ 0 _ rfl; (with_reducible repeat (first | refine blk_drewN ?_ _ | refine blk_drew ?_ | refine blk_alloc ?_ _)); exact BK283.out) hb); have n5_ := Aside0.mk (below_step (by repeat (first | (with_reducible first | exact HB.out | apply below_alloc | apply pw_below_drewN | apply below_drew1 | refine below_set ?_ GE277.out | refine below_set ?_ GE283.out) | exact HB.out)) hb); clear HO275; clear HO282; clear BK277; clear BK283; clear HB; have HO275 := n0_; have HO282 := n1_; have HO288 := n2_; have BK277 := n3_; have BK283 := n4_; have HB := n5_; clear n0_ n1_ n2_ n3_ n4_ n5_; (try clear hb); (try clear hb2); (try clear hk); (try clear hi); (try clear ho0)) | ((with_reducible refine gate_dst (N := 6) rfl ?_); refine box_event ?hg (N := 6) ?hd (cs := #[.int .i64 0, .int .i64 0, .slice none 0 0]) (t := 66) ?hr ?_; (case hd => rfl); (case hg => rfl); (case hr => first | (go_simp; done) | (go_simp; rfl)); intro gb289 hg w18 hbox hb; have n0_ := Aside0.mk (Kd.R_below (by (with_reducible repeat (first | apply Kd.R_alloc | apply Kd.R_drewN | apply Kd.R_drew)); exact HO275.out) hb); have n1_ := Aside0.mk (Kd.R_below (by (with_reducible repeat (first | apply Kd.R_alloc | apply Kd.R_drewN | apply Kd.R_drew)); exact HO282.out) hb); have n2_ := Aside0.mk (Kd.R_below (by (with_reducible repeat (first | apply Kd.R_alloc | apply Kd.R_drewN | apply Kd.R_drew)); exact HO288.out) hb); have n3_ := Aside0.mk (blk_below (g := gb277) (o := .cells #[.int .i64 t271, .int .i64 t272, .slice Ao10 t273.length co10] 66 (0, 0)) (by (with_reducible repeat (first | refine blk_drewN ?_ _ | refine blk_drew ?_ | refine blk_alloc ?_ _)); exact BK277.out) hb); have n4_ := Aside0.mk (blk_below (g := gb283) (o := .cells #[.int .i64 t278, .int .i64 t279, .slice Ao15 t280.length co15] 66 (0, 0)) (by (with_reducible repeat (first | refine blk_drewN ?_ _ | refine blk_drew ?_ | refine blk_alloc ?_ _)); exact BK283.out) hb); have n5_ := Aside0.mk (below_step (by repeat (first | (with_reducible first | exact HB.out | apply below_alloc | apply pw_below_drewN | apply below_drew1 | refine below_set ?_ GE277.out | refine below_set ?_ GE283.out) | exact HB.out)) hb); have n6_ := Aside0.mk (hbox); have n7_ := Aside0.mk ((by rw [hg]; exact (below_size (by repeat (first | (with_reducible first | exact HB.out | apply below_alloc | apply pw_below_drewN | apply below_drew1 | refine below_set ?_ GE277.out | refine below_set ?_ GE283.out) | exact HB.out))) : w.heap.size ≤ gb289)); have n8_ := n7_; have n9_ := Aside0.mk ((by rw [hg]; exact Nat.ne_of_lt (blk_lt (g := gb277) (o := .cells #[.int .i64 t271, .int .i64 t272, .slice Ao10 t273.length co10] 66 (0, 0)) (by (with_reducible repeat (first | refine blk_drewN ?_ _ | refine blk_drew ?_ | refine blk_alloc ?_ _)); exact BK277.out)) : gb277 ≠ gb289)); have n10_ := Aside0.mk ((by rw [hg]; exact Nat.ne_of_gt (blk_lt (g := gb277) (o := .cells #[.int .i64 t271, .int .i64 t272, .slice Ao10 t273.length co10] 66 (0, 0)) (by (with_reducible repeat (first | refine blk_drewN ?_ _ | refine blk_drew ?_ | refine blk_alloc ?_ _)); exact BK277.out)) : gb289 ≠ gb277)); have n11_ := Aside0.mk ((by rw [hg]; exact Nat.ne_of_lt (blk_lt (g := gb283) (o := .cells #[.int .i64 t278, .int .i64 t279, .slice Ao15 t280.length co15] 66 (0, 0)) (by (with_reducible repeat (first | refine blk_drewN ?_ _ | refine blk_drew ?_ | refine blk_alloc ?_ _)); exact BK283.out)) : gb283 ≠ gb289)); have n12_ := Aside0.mk ((by rw [hg]; exact Nat.ne_of_gt (blk_lt (g := gb283) (o := .cells #[.int .i64 t278, .int .i64 t279, .slice Ao15 t280.length co15] 66 (0, 0)) (by (with_reducible repeat (first | refine blk_drewN ?_ _ | refine blk_drew ?_ | refine blk_alloc ?_ _)); exact BK283.out)) : gb289 ≠ gb283)); clear HO275; clear HO282; clear HO288; clear BK277; clear BK283; clear HB; have HO275 := n0_; have HO282 := n1_; have HO288 := n2_; have BK277 := n3_; have BK283 := n4_; have HB := n5_; have BK289 := n6_; have GW289 := n7_; have GE289 := n8_; have NB277_289 := n9_; have NB289_277 := n10_; have NB283_289 := n11_; have NB289_283 := n12_; clear n0_ n1_ n2_ n3_ n4_ n5_ n6_ n7_ n8_ n9_ n10_ n11_ n12_; clear hb hbox hg; have hnb19 := NB289_277.out; have hnc19 := NB277_289.out; have hnb20 := NB289_283.out; have hnc20 := NB283_289.out; have hcz21_0 : w18.cell? ⟨gb289, 0, none⟩ = some (.int .i64 0) := (blk_cell BK289.out 0).trans rfl; have hcz21_1 : w18.cell? ⟨gb289, 1, none⟩ = some (.int .i64 0) := (blk_cell BK289.out 1).trans rfl; have hcz21_2 : w18.cell? ⟨gb289, 2, none⟩ = some (.slice none 0 0) := (blk_cell BK289.out 2).trans rfl; have hfz21_0 := blk_frozen BK289.out 0; have hfz21_1 := blk_frozen BK289.out 1; have hfz21_2 := blk_frozen BK289.out 2; obtain ⟨Ao22, co22, eo22⟩ := Kd.R_slice HO288.out; subst eo22))
  repeat (go_quiet (first | (go_at_call 44; (with_reducible refine (spec_DrawSmooth.calls k _ _ l0 t271 t272 t273 t276 _ ?side1 ?side2 A3.out).mono ?_); (case side1 => repeat (first | exact HR0.out | (with_reducible refine Kd.C_alloc ?_ _) | (with_reducible refine Kd.C_drewN ?_ _) | (with_reducible refine Kd.C_drew ?_))); (case side2 => exact HC0.out); rintro e w7 ⟨v274, rfl, ho0, hb⟩; have n0_ := Aside0.mk (Kd.R_lower ho0 (below_size (by repeat (first | (with_reducible first | exact HB.out | apply below_alloc | apply pw_below_drewN | apply below_drew1) | exact HB.out)))); have n1_ := Aside0.mk (below_step (by repeat (first | (with_reducible first | exact HB.out | apply below_alloc | apply pw_below_drewN | apply below_drew1) | exact HB.out)) hb); clear HB; have HO275 := n0_; have HB := n1_; clear n0_ n1_; (try clear hb); (try clear hb2); (try clear hk); (try clear hi); (try clear ho0)) | ((with_reducible refine gate_dst (N := 3) rfl ?_); refine box_event ?hg (N := 3) ?hd (cs := #[.int .i64 0, .int .i64 0, .slice none 0 0]) (t := 66) ?hr ?_; (case hd => rfl); (case hg => rfl); (case hr => first | (go_simp; done) | (go_simp; rfl)); intro gb277 hg w8 hbox hb; have n0_ := Aside0.mk (Kd.R_below (by (with_reducible repeat (first | apply Kd.R_alloc | apply Kd.R_drewN | apply Kd.R_drew)); exact HO275.out) hb); have n1_ := Aside0.mk (below_step (by repeat (first | (with_reducible first | exact HB.out | apply below_alloc | apply pw_below_drewN | apply below_drew1) | exact HB.out)) hb); have n2_ := Aside0.mk (hbox); have n3_ := Aside0.mk ((by rw [hg]; exact (below_size (by repeat (first | (with_reducible first | exact HB.out | apply below_alloc | apply pw_below_drewN | apply below_drew1) | exact HB.out))) : w.heap.size ≤ gb277)); have n4_ := n3_; clear HO275; clear HB; have HO275 := n0_; have HB := n1_; have BK277 := n2_; have GW277 := n3_; have GE277 := n4_; clear n0_ n1_ n2_ n3_ n4_; clear hb hbox hg; have hcz9_0 : w8.cell? ⟨gb277, 0, none⟩ = some (.int .i64 0) := (blk_cell BK277.out 0).trans rfl; have hcz9_1 : w8.cell? ⟨gb277, 1, none⟩ = some (.int .i64 0) := (blk_cell BK277.out 1).trans rfl; have hcz9_2 : w8.cell? ⟨gb277, 2, none⟩ = some (.slice none 0 0) := (blk_cell BK277.out 2).trans rfl; have hfz9_0 := blk_frozen BK277.out 0; have hfz9_1 := blk_frozen BK277.out 1; have hfz9_2 := blk_frozen BK277.out 2; obtain ⟨Ao10, co10, eo10⟩ := Kd.R_slice HO275.out; subst eo10) | (go_at_call 45; (with_reducible refine (impl_Smooth.calls k t271 t272 _ _ t273 t276 t278 t279 t280 _ ?side1 ?side2 A4.out).mono ?_); (case side1 => refine (Kd.R_reads' (e := 3) (base := w.heap.size) (ok := fun k_ => True) (n := t273.length) (c := co10) ?_).2.2; exact (by (with_reducible repeat (first | apply Kd.R_alloc | apply Kd.R_drewN | apply Kd.R_drew)); exact (Kd.R_mono (Kd.R_far (p := ⟨gb277, 2, none⟩) (Kd.R_far (p := ⟨gb277, 1, none⟩) (Kd.R_far (p := ⟨gb277, 0, none⟩) (Kd.R_types HO275.out BK277.out (by decide)) (fun _ hk => hk.2) (.int .i64 t271)) (fun _ hk => hk.2) (.int .i64 t272)) (fun _ hk => hk.2) (.slice Ao10 t273.length co10)) (fun _ h_ => h_.1)))); (case side2 => exact (Kd.R_reads' HO275.out).2.1); rintro e w11 ⟨v281, rfl, ho0, hb⟩; have n0_ := Aside0.mk (Kd.R_elder' (by (with_reducible repeat (first | apply Kd.R_alloc | apply Kd.R_drewN | apply Kd.R_drew)); exact (Kd.R_mono (Kd.R_far (p := ⟨gb277, 2, none⟩) (Kd.R_far (p := ⟨gb277, 1, none⟩) (Kd.R_far (p := ⟨gb277, 0, none⟩) (Kd.R_types HO275.out BK277.out (by decide)) (fun _ hk => hk.2) (.int .i64 t271)) (fun _ hk => hk.2) (.int .i64 t272)) (fun _ hk => hk.2) (.slice Ao10 t273.length co10)) (fun _ h_ => h_.1))) (Kd.R_base ho0) hb); have n1_ := Aside0.mk (Kd.R_lower (Kd.R_new' ho0 (Kd.R_lt (by (with_reducible repeat (first | apply Kd.R_alloc | apply Kd.R_drewN | apply Kd.R_drew)); exact (Kd.R_mono (Kd.R_far (p := ⟨gb277, 2, none⟩) (Kd.R_far (p := ⟨gb277, 1, none⟩) (Kd.R_far (p := ⟨gb277, 0, none⟩) (Kd.R_types HO275.out BK277.out (by decide)) (fun _ hk => hk.2) (.int .i64 t271)) (fun _ hk => hk.2) (.int .i64 t272)) (fun _ hk => hk.2) (.slice Ao10 t273.length co10)) (fun _ h_ => h_.1))))) (below_size (by repeat (first | (with_reducible first | exact HB.out | apply below_alloc | apply pw_below_drewN | apply below_drew1 | refine below_set ?_ GE277.out) | exact HB.out)))); have n2_ := Aside0.mk (blk_below (g := gb277) (o := .cells #[.int .i64 t271, .int .i64 t272, .slice Ao10 t273.length co10] 66 (0, 0)) (by (with_reducible repeat (first | refine blk_drewN ?_ _ | refine blk_drew ?_ | refine blk_alloc ?_ _)); refine blk_put (cs := #[.int .i64 t271, .int .i64 t272, .slice none 0 0]) ?_ 2 _ rfl; (with_reducible repeat (first | refine blk_drewN ?_ _ | refine blk_drew ?_ | refine blk_alloc ?_ _)); refine blk_put (cs := #[.int .i64 t271, .int .i64 0, .slice none 0 0]) ?_ 1 _ rfl; (with_reducible repeat (first | refine blk_drewN ?_ _ | refine blk_drew ?_ | refine blk_alloc ?_ _)); refine blk_put (cs := #[.int .i64 0, .int .i64 0, .slice none 0 0]) ?_ 0 _ rfl; (with_reducible repeat (first | refine blk_drewN ?_ _ | refine blk_drew ?_ | refine blk_alloc ?_ _)); exact BK277.out) hb); have n3_ := Aside0.mk (below_step (by repeat (first | (with_reducible first | exact HB.out | apply below_alloc | apply pw_below_drewN | apply below_drew1 | refine below_set ?_ GE277.out) | exact HB.out)) hb); clear HO275; clear BK277; clear HB; have HO275 := n0_; have HO282 := n1_; have BK277 := n2_; have HB := n3_; clear n0_ n1_ n2_ n3_; (try clear hb); (try clear hb2); (try clear hk); (try clear hi); (try clear ho0)) | ((with_reducible refine gate_dst (N := 5) rfl ?_); refine box_event ?hg (N := 5) ?hd (cs := #[.int .i64 0, .int .i64 0, .slice none 0 0]) (t := 66) ?hr ?_; (case hd => rfl); (case hg => rfl); (case hr => first | (go_simp; done) | (go_simp; rfl)); intro gb283 hg w12 hbox hb; have n0_ := Aside0.mk (Kd.R_below (by (with_reducible repeat (first | apply Kd.R_alloc | apply Kd.R_drewN | apply Kd.R_drew)); exact HO275.out) hb); have n1_ := Aside0.mk (Kd.R_below (by (with_reducible repeat (first | apply Kd.R_alloc | apply Kd.R_drewN | apply Kd.R_drew)); exact HO282.out) hb); have n2_ := Aside0.mk (blk_below (g := gb277) (o := .cells #[.int .i64 t271, .int .i64 t272, .slice Ao10 t273.length co10] 66 (0, 0)) (by (with_reducible repeat (first | refine blk_drewN ?_ _ | refine blk_drew ?_ | refine blk_alloc ?_ _)); exact BK277.out) hb); have n3_ := Aside0.mk (below_step (by repeat (first | (with_reducible first | exact HB.out | apply below_alloc | apply pw_below_drewN | apply below_drew1 | refine below_set ?_ GE277.out) | exact HB.out)) hb); have n4_ := Aside0.mk (hbox); have n5_ := Aside0.mk ((by rw [hg]; exact (below_size (by repeat (first | (with_reducible first | exact HB.out | apply below_alloc | apply pw_below_drewN | apply below_drew1 | refine below_set ?_ GE277.out) | exact HB.out))) : w.heap.size ≤ gb283)); have n6_ := n5_; have n7_ := Aside0.mk ((by rw [hg]; exact Nat.ne_of_lt (blk_lt (g := gb277) (o := .cells #[.int .i64 t271, .int .i64 t272, .slice Ao10 t273.length co10] 66 (0, 0)) (by (with_reducible repeat (first | refine blk_drewN ?_ _ | refine blk_drew ?_ | refine blk_alloc ?_ _)); exact BK277.out)) : gb277 ≠ gb283)); have n8_ := Aside0.mk ((by rw [hg]; exact Nat.ne_of_gt (blk_lt (g := gb277) (o := .cells #[.int .i64 t271, .int .i64 t272, .slice Ao10 t273.length co10] 66 (0, 0)) (by (with_reducible repeat (first | refine blk_drewN ?_ _ | refine blk_drew ?_ | refine blk_alloc ?_ _)); exact BK277.out)) : gb283 ≠ gb277)); clear HO275; clear HO282; clear BK277; clear HB; have HO275 := n0_; have HO282 := n1_; have BK277 := n2_; have HB := n3_; have BK283 := n4_; have GW283 := n5_; have GE283 := n6_; have NB277_283 := n7_; have NB283_277 := n8_; clear n0_ n1_ n2_ n3_ n4_ n5_ n6_ n7_ n8_; clear hb hbox hg; have hnb13 := NB283_277.out; have hnc13 := NB277_283.out; have hcz14_0 : w12.cell? ⟨gb283, 0, none⟩ = some (.int .i64 0) := (blk_cell BK283.out 0).trans rfl; have hcz14_1 : w12.cell? ⟨gb283, 1, none⟩ = some (.int .i64 0) := (blk_cell BK283.out 1).trans rfl; have hcz14_2 : w12.cell? ⟨gb283, 2, none⟩ = some (.slice none 0 0) := (blk_cell BK283.out 2).trans rfl; have hfz14_0 := blk_frozen BK283.out 0; have hfz14_1 := blk_frozen BK283.out 1; have hfz14_2 := blk_frozen BK283.out 2; obtain ⟨Ao15, co15, eo15⟩ := Kd.R_slice HO282.out; subst eo15; have hcz16_0 : w12.cell? ⟨gb277, 0, none⟩ = some (.int .i64 t271) := (blk_cell BK277.out 0).trans rfl; have hcz16_1 : w12.cell? ⟨gb277, 1, none⟩ = some (.int .i64 t272) := (blk_cell BK277.out 1).trans rfl; have hcz16_2 : w12.cell? ⟨gb277, 2, none⟩ = some (.slice Ao10 t273.length co10) := (blk_cell BK277.out 2).trans rfl; have hfz16_0 := blk_frozen BK277.out 0; have hfz16_1 := blk_frozen BK277.out 1; have hfz16_2 := blk_frozen BK277.out 2) | (go_at_call 46; (with_reducible refine (spec_Smooth.calls k t271 t272 _ _ t273 t276 t284 t285 t286 _ ?side1 ?side2 A5.out).mono ?_); (case side1 => refine (Kd.R_reads' (e := 3) (base := w.heap.size) (ok := fun k_ => (True ∧ some k_ ≠ (.slice Ao15 t280.length co15 : Value).ownBlock)) (n := t273.length) (c := co10) ?_).2.2; exact (by (with_reducible repeat (first | apply Kd.R_alloc | apply Kd.R_drewN | apply Kd.R_drew)); exact (Kd.R_mono (Kd.R_far (p := ⟨gb283, 2, none⟩) (Kd.R_far (p := ⟨gb283, 1, none⟩) (Kd.R_far (p := ⟨gb283, 0, none⟩) (Kd.R_types HO275.out BK283.out (by decide)) (fun _ hk => hk.2) (.int .i64 t278)) (fun _ hk => hk.2) (.int .i64 t279)) (fun _ hk => hk.2) (.slice Ao15 t280.length co15)) (fun _ h_ => h_.1)))); (case side2 => exact (Kd.R_reads' HO275.out).2.1); rintro e w17 ⟨v287, rfl, ho0, hb⟩; have n0_ := Aside0.mk (Kd.R_elder' (by (with_reducible repeat (first | apply Kd.R_alloc | apply Kd.R_drewN | apply Kd.R_drew)); exact (Kd.R_mono (Kd.R_far (p := ⟨gb283, 2, none⟩) (Kd.R_far (p := ⟨gb283, 1, none⟩) (Kd.R_far (p := ⟨gb283, 0, none⟩) (Kd.R_types HO275.out BK283.out (by decide)) (fun _ hk => hk.2) (.int .i64 t278)) (fun _ hk => hk.2) (.int .i64 t279)) (fun _ hk => hk.2) (.slice Ao15 t280.length co15)) (fun _ h_ => h_.1))) (Kd.R_base ho0) hb); have n1_ := Aside0.mk (Kd.R_elder' (by (with_reducible repeat (first | apply Kd.R_alloc | apply Kd.R_drewN | apply Kd.R_drew)); exact (Kd.R_mono (Kd.R_far (p := ⟨gb283, 2, none⟩) (Kd.R_far (p := ⟨gb283, 1, none⟩) (Kd.R_far (p := ⟨gb283, 0, none⟩) (Kd.R_types HO282.out BK283.out (by decide)) (fun _ hk => hk.2) (.int .i64 t278)) (fun _ hk => hk.2) (.int .i64 t279)) (fun _ hk => hk.2) (.slice Ao15 t280.length co15)) (fun _ h_ => h_.1))) (Kd.R_base ho0) hb); have n2_ := Aside0.mk (Kd.R_lower (Kd.R_new' (Kd.R_new' ho0 (Kd.R_lt (by (with_reducible repeat (first | apply Kd.R_alloc | apply Kd.R_drewN | apply Kd.R_drew)); exact (Kd.R_mono (Kd.R_far (p := ⟨gb283, 2, none⟩) (Kd.R_far (p := ⟨gb283, 1, none⟩) (Kd.R_far (p := ⟨gb283, 0, none⟩) (Kd.R_types HO275.out BK283.out (by decide)) (fun _ hk => hk.2) (.int .i64 t278)) (fun _ hk => hk.2) (.int .i64 t279)) (fun _ hk => hk.2) (.slice Ao15 t280.length co15)) (fun _ h_ => h_.1))))) (Kd.R_lt (by (with_reducible repeat (first | apply Kd.R_alloc | apply Kd.R_drewN | apply Kd.R_drew)); exact (Kd.R_mono (Kd.R_far (p := ⟨gb283, 2, none⟩) (Kd.R_far (p := ⟨gb283, 1, none⟩) (Kd.R_far (p := ⟨gb283, 0, none⟩) (Kd.R_types HO282.out BK283.out (by decide)) (fun _ hk => hk.2) (.int .i64 t278)) (fun _ hk => hk.2) (.int .i64 t279)) (fun _ hk => hk.2) (.slice Ao15 t280.length co15)) (fun _ h_ => h_.1))))) (below_size (by repeat (first | (with_reducible first | exact HB.out | apply below_alloc | apply pw_below_drewN | apply below_drew1 | refine below_set ?_ GE277.out | refine below_set ?_ GE283.out) | exact HB.out)))); have n3_ := Aside0.mk (blk_below (g := gb277) (o := .cells #[.int .i64 t271, .int .i64 t272, .slice Ao10 t273.length co10] 66 (0, 0)) (by (with_reducible repeat (first | refine blk_drewN ?_ _ | refine blk_drew ?_ | refine blk_alloc ?_ _)); refine blk_far ?_ NB277_283.out _; (with_reducible repeat (first | refine blk_drewN ?_ _ | refine blk_drew ?_ | refine blk_alloc ?_ _)); refine blk_far ?_ NB277_283.out _; (with_reducible repeat (first | refine blk_drewN ?_ _ | refine blk_drew ?_ | refine blk_alloc ?_ _)); refine blk_far ?_ NB277_283.out _; (with_reducible repeat (first | refine blk_drewN ?_ _ | refine blk_drew ?_ | refine blk_alloc ?_ _)); exact BK277.out) hb); have n4_ := Aside0.mk (blk_below (g := gb283) (o := .cells #[.int .i64 t278, .int .i64 t279, .slice Ao15 t280.length co15] 66 (0, 0)) (by (with_reducible repeat (first | refine blk_drewN ?_ _ | refine blk_drew ?_ | refine blk_alloc ?_ _)); refine blk_put (cs := #[.int .i64 t278, .int .i64 t279, .slice none 0 0]) ?_ 2 _ rfl; (with_reducible repeat (first | refine blk_drewN ?_ _ | refine blk_drew ?_ | refine blk_alloc ?_ _)); refine blk_put (cs := #[.int .i64 t278, .int .i64 0, .slice none 0 0]) ?_ 1 _ rfl; (with_reducible repeat (first | refine blk_drewN ?_ _ | refine blk_drew ?_ | refine blk_alloc ?_ _)); refine blk_put (cs := #[.int .i64 0, .int .i64 0, .slice none 0 0]) ?_ 0 _ rfl; (with_reducible repeat (first | refine blk_drewN ?_ _ | refine blk_drew ?_ | refine blk_alloc ?_ _)); exact BK283.out) hb); have n5_ := Aside0.mk (below_step (by repeat (first | (with_reducible first | exact HB.out | apply below_alloc | apply pw_below_drewN | apply below_drew1 | refine below_set ?_ GE277.out | refine below_set ?_ GE283.out) | exact HB.out)) hb); clear HO275; clear HO282; clear BK277; clear BK283; clear HB; have HO275 := n0_; have HO282 := n1_; have HO288 := n2_; have BK277 := n3_; have BK283 := n4_; have HB := n5_; clear n0_ n1_ n2_ n3_ n4_ n5_; (try clear hb); (try clear hb2); (try clear hk); (try clear hi); (try clear ho0)) | ((with_reducible refine gate_dst (N := 6) rfl ?_); refine box_event ?hg (N := 6) ?hd (cs := #[.int .i64 0, .int .i64 0, .slice none 0 0]) (t := 66) ?hr ?_; (case hd => rfl); (case hg => rfl); (case hr => first | (go_simp; done) | (go_simp; rfl)); intro gb289 hg w18 hbox hb; have n0_ := Aside0.mk (Kd.R_below (by (with_reducible repeat (first | apply Kd.R_alloc | apply Kd.R_drewN | apply Kd.R_drew)); exact HO275.out) hb); have n1_ := Aside0.mk (Kd.R_below (by (with_reducible repeat (first | apply Kd.R_alloc | apply Kd.R_drewN | apply Kd.R_drew)); exact HO282.out) hb); have n2_ := Aside0.mk (Kd.R_below (by (with_reducible repeat (first | apply Kd.R_alloc | apply Kd.R_drewN | apply Kd.R_drew)); exact HO288.out) hb); have n3_ := Aside0.mk (blk_below (g := gb277) (o := .cells #[.int .i64 t271, .int .i64 t272, .slice Ao10 t273.length co10] 66 (0, 0)) (by (with_reducible repeat (first | refine blk_drewN ?_ _ | refine blk_drew ?_ | refine blk_alloc ?_ _)); exact BK277.out) hb); have n4_ := Aside0.mk (blk_below (g := gb283) (o := .cells #[.int .i64 t278, .int .i64 t279, .slice Ao15 t280.length co15] 66 (0, 0)) (by (with_reducible repeat (first | refine blk_drewN ?_ _ | refine blk_drew ?_ | refine blk_alloc ?_ _)); exact BK283.out) hb); have n5_ := Aside0.mk (below_step (by repeat (first | (with_reducible first | exact HB.out | apply below_alloc | apply pw_below_drewN | apply below_drew1 | refine below_set ?_ GE277.out | refine below_set ?_ GE283.out) | exact HB.out)) hb); have n6_ := Aside0.mk (hbox); have n7_ := Aside0.mk ((by rw [hg]; exact (below_size (by repeat (first | (with_reducible first | exact HB.out | apply below_alloc | apply pw_below_drewN | apply below_drew1 | refine below_set ?_ GE277.out | refine below_set ?_ GE283.out) | exact HB.out))) : w.heap.size ≤ gb289)); have n8_ := n7_; have n9_ := Aside0.mk ((by rw [hg]; exact Nat.ne_of_lt (blk_lt (g := gb277) (o := .cells #[.int .i64 t271, .int .i64 t272, .slice Ao10 t273.length co10] 66 (0, 0)) (by (with_reducible repeat (first | refine blk_drewN ?_ _ | refine blk_drew ?_ | refine blk_alloc ?_ _)); exact BK277.out)) : gb277 ≠ gb289)); have n10_ := Aside0.mk ((by rw [hg]; exact Nat.ne_of_gt (blk_lt (g := gb277) (o := .cells #[.int .i64 t271, .int .i64 t272, .slice Ao10 t273.length co10] 66 (0, 0)) (by (with_reducible repeat (first | refine blk_drewN ?_ _ | refine blk_drew ?_ | refine blk_alloc ?_ _)); exact BK277.out)) : gb289 ≠ gb277)); have n11_ := Aside0.mk ((by rw [hg]; exact Nat.ne_of_lt (blk_lt (g := gb283) (o := .cells #[.int .i64 t278, .int .i64 t279, .slice Ao15 t280.length co15] 66 (0, 0)) (by (with_reducible repeat (first | refine blk_drewN ?_ _ | refine blk_drew ?_ | refine blk_alloc ?_ _)); exact BK283.out)) : gb283 ≠ gb289)); have n12_ := Aside0.mk ((by rw [hg]; exact Nat.ne_of_gt (blk_lt (g := gb283) (o := .cells #[.int .i64 t278, .int .i64 t279, .slice Ao15 t280.length co15] 66 (0, 0)) (by (with_reducible repeat (first | refine blk_drewN ?_ _ | refine blk_drew ?_ | refine blk_alloc ?_ _)); exact BK283.out)) : gb289 ≠ gb283)); clear HO275; clear HO282; clear HO288; clear BK277; clear BK283; clear HB; have HO275 := n0_; have HO282 := n1_; have HO288 := n2_; have BK277 := n3_; have BK283 := n4_; have HB := n5_; have BK289 := n6_; have GW289 := n7_; have GE289 := n8_; have NB277_289 := n9_; have NB289_277 := n10_; have NB283_289 := n11_; have NB289_283 := n12_; clear n0_ n1_ n2_ n3_ n4_ n5_ n6_ n7_ n8_ n9_ n10_ n11_ n12_; clear hb hbox hg; have hnb19 := NB289_277.out; have hnc19 := NB277_289.out; have hnb20 := NB289_283.out; have hnc20 := NB283_289.out; have hcz21_0 : w18.cell? ⟨gb289, 0, none⟩ = some (.int .i64 0) := (blk_cell BK289.out 0).trans rfl; have hcz21_1 : w18.cell? ⟨gb289, 1, none⟩ = some (.int .i64 0) := (blk_cell BK289.out 1).trans rfl; have hcz21_2 : w18.cell? ⟨gb289, 2, none⟩ = some (.slice none 0 0) := (blk_cell BK289.out 2).trans rfl; have hfz21_0 := blk_frozen BK289.out 0; have hfz21_1 := blk_frozen BK289.out 1; have hfz21_2 := blk_frozen BK289.out 2; obtain ⟨Ao22, co22, eo22⟩ := Kd.R_slice HO288.out; subst eo22)); go_upto_region 6 with (first | (go_at_call 44; (with_reducible refine (spec_DrawSmooth.calls k _ _ l0 t271 t272 t273 t276 _ ?side1 ?side2 A3.out).mono ?_); (case side1 => repeat (first | exact HR0.out | (with_reducible refine Kd.C_alloc ?_ _) | (with_reducible refine Kd.C_drewN ?_ _) | (with_reducible refine Kd.C_drew ?_))); (case side2 => exact HC0.out); rintro e w7 ⟨v274, rfl, ho0, hb⟩; have n0_ := Aside0.mk (Kd.R_lower ho0 (below_size (by repeat (first | (with_reducible first | exact HB.out | apply below_alloc | apply pw_below_drewN | apply below_drew1) | exact HB.out)))); have n1_ := Aside0.mk (below_step (by repeat (first | (with_reducible first | exact HB.out | apply below_alloc | apply pw_below_drewN | apply below_drew1) | exact HB.out)) hb); clear HB; have HO275 := n0_; have HB := n1_; clear n0_ n1_; (try clear hb); (try clear hb2); (try clear hk); (try clear hi); (try clear ho0)) | ((with_reducible refine gate_dst (N := 3) rfl ?_); refine box_event ?hg (N := 3) ?hd (cs := #[.int .i64 0, .int .i64 0, .slice none 0 0]) (t := 66) ?hr ?_; (case hd => rfl); (case hg => rfl); (case hr => first | (go_simp; done) | (go_simp; rfl)); intro gb277 hg w8 hbox hb; have n0_ := Aside0.mk (Kd.R_below (by (with_reducible repeat (first | apply Kd.R_alloc | apply Kd.R_drewN | apply Kd.R_drew)); exact HO275.out) hb); have n1_ := Aside0.mk (below_step (by repeat (first | (with_reducible first | exact HB.out | apply below_alloc | apply pw_below_drewN | apply below_drew1) | exact HB.out)) hb); have n2_ := Aside0.mk (hbox); have n3_ := Aside0.mk ((by rw [hg]; exact (below_size (by repeat (first | (with_reducible first | exact HB.out | apply below_alloc | apply pw_below_drewN | apply below_drew1) | exact HB.out))) : w.heap.size ≤ gb277)); have n4_ := n3_; clear HO275; clear HB; have HO275 := n0_; have HB := n1_; have BK277 := n2_; have GW277 := n3_; have GE277 := n4_; clear n0_ n1_ n2_ n3_ n4_; clear hb hbox hg; have hcz9_0 : w8.cell? ⟨gb277, 0, none⟩ = some (.int .i64 0) := (blk_cell BK277.out 0).trans rfl; have hcz9_1 : w8.cell? ⟨gb277, 1, none⟩ = some (.int .i64 0) := (blk_cell BK277.out 1).trans rfl; have hcz9_2 : w8.cell? ⟨gb277, 2, none⟩ = some (.slice none 0 0) := (blk_cell BK277.out 2).trans rfl; have hfz9_0 := blk_frozen BK277.out 0; have hfz9_1 := blk_frozen BK277.out 1; have hfz9_2 := blk_frozen BK277.out 2; obtain ⟨Ao10, co10, eo10⟩ := Kd.R_slice HO275.out; subst eo10) | (go_at_call 45; (with_reducible refine (impl_Smooth.calls k t271 t272 _ _ t273 t276 t278 t279 t280 _ ?side1 ?side2 A4.out).mono ?_); (case side1 => refine (Kd.R_reads' (e := 3) (base := w.heap.size) (ok := fun k_ => True) (n := t273.length) (c := co10) ?_).2.2; exact (by (with_reducible repeat (first | apply Kd.R_alloc | apply Kd.R_drewN | apply Kd.R_drew)); exact (Kd.R_mono (Kd.R_far (p := ⟨gb277, 2, none⟩) (Kd.R_far (p := ⟨gb277, 1, none⟩) (Kd.R_far (p := ⟨gb277, 0, none⟩) (Kd.R_types HO275.out BK277.out (by decide)) (fun _ hk => hk.2) (.int .i64 t271)) (fun _ hk => hk.2) (.int .i64 t272)) (fun _ hk => hk.2) (.slice Ao10 t273.length co10)) (fun _ h_ => h_.1)))); (case side2 => exact (Kd.R_reads' HO275.out).2.1); rintro e w11 ⟨v281, rfl, ho0, hb⟩; have n0_ := Aside0.mk (Kd.R_elder' (by (with_reducible repeat (first | apply Kd.R_alloc | apply Kd.R_drewN | apply Kd.R_drew)); exact (Kd.R_mono (Kd.R_far (p := ⟨gb277, 2, none⟩) (Kd.R_far (p := ⟨gb277, 1, none⟩) (Kd.R_far (p := ⟨gb277, 0, none⟩) (Kd.R_types HO275.out BK277.out (by decide)) (fun _ hk => hk.2) (.int .i64 t271)) (fun _ hk => hk.2) (.int .i64 t272)) (fun _ hk => hk.2) (.slice Ao10 t273.length co10)) (fun _ h_ => h_.1))) (Kd.R_base ho0) hb); have n1_ := Aside0.mk (Kd.R_lower (Kd.R_new' ho0 (Kd.R_lt (by (with_reducible repeat (first | apply Kd.R_alloc | apply Kd.R_drewN | apply Kd.R_drew)); exact (Kd.R_mono (Kd.R_far (p := ⟨gb277, 2, none⟩) (Kd.R_far (p := ⟨gb277, 1, none⟩) (Kd.R_far (p := ⟨gb277, 0, none⟩) (Kd.R_types HO275.out BK277.out (by decide)) (fun _ hk => hk.2) (.int .i64 t271)) (fun _ hk => hk.2) (.int .i64 t272)) (fun _ hk => hk.2) (.slice Ao10 t273.length co10)) (fun _ h_ => h_.1))))) (below_size (by repeat (first | (with_reducible first | exact HB.out | apply below_alloc | apply pw_below_drewN | apply below_drew1 | refine below_set ?_ GE277.out) | exact HB.out)))); have n2_ := Aside0.mk (blk_below (g := gb277) (o := .cells #[.int .i64 t271, .int .i64 t272, .slice Ao10 t273.length co10] 66 (0, 0)) (by (with_reducible repeat (first | refine blk_drewN ?_ _ | refine blk_drew ?_ | refine blk_alloc ?_ _)); refine blk_put (cs := #[.int .i64 t271, .int .i64 t272, .slice none 0 0]) ?_ 2 _ rfl; (with_reducible repeat (first | refine blk_drewN ?_ _ | refine blk_drew ?_ | refine blk_alloc ?_ _)); refine blk_put (cs := #[.int .i64 t271, .int .i64 0, .slice none 0 0]) ?_ 1 _ rfl; (with_reducible repeat (first | refine blk_drewN ?_ _ | refine blk_drew ?_ | refine blk_alloc ?_ _)); refine blk_put (cs := #[.int .i64 0, .int .i64 0, .slice none 0 0]) ?_ 0 _ rfl; (with_reducible repeat (first | refine blk_drewN ?_ _ | refine blk_drew ?_ | refine blk_alloc ?_ _)); exact BK277.out) hb); have n3_ := Aside0.mk (below_step (by repeat (first | (with_reducible first | exact HB.out | apply below_alloc | apply pw_below_drewN | apply below_drew1 | refine below_set ?_ GE277.out) | exact HB.out)) hb); clear HO275; clear BK277; clear HB; have HO275 := n0_; have HO282 := n1_; have BK277 := n2_; have HB := n3_; clear n0_ n1_ n2_ n3_; (try clear hb); (try clear hb2); (try clear hk); (try clear hi); (try clear ho0)) | ((with_reducible refine gate_dst (N := 5) rfl ?_); refine box_event ?hg (N := 5) ?hd (cs := #[.int .i64 0, .int .i64 0, .slice none 0 0]) (t := 66) ?hr ?_; (case hd => rfl); (case hg => rfl); (case hr => first | (go_simp; done) | (go_simp; rfl)); intro gb283 hg w12 hbox hb; have n0_ := Aside0.mk (Kd.R_below (by (with_reducible repeat (first | apply Kd.R_alloc | apply Kd.R_drewN | apply Kd.R_drew)); exact HO275.out) hb); have n1_ := Aside0.mk (Kd.R_below (by (with_reducible repeat (first | apply Kd.R_alloc | apply Kd.R_drewN | apply Kd.R_drew)); exact HO282.out) hb); have n2_ := Aside0.mk (blk_below (g := gb277) (o := .cells #[.int .i64 t271, .int .i64 t272, .slice Ao10 t273.length co10] 66 (0, 0)) (by (with_reducible repeat (first | refine blk_drewN ?_ _ | refine blk_drew ?_ | refine blk_alloc ?_ _)); exact BK277.out) hb); have n3_ := Aside0.mk (below_step (by repeat (first | (with_reducible first | exact HB.out | apply below_alloc | apply pw_below_drewN | apply below_drew1 | refine below_set ?_ GE277.out) | exact HB.out)) hb); have n4_ := Aside0.mk (hbox); have n5_ := Aside0.mk ((by rw [hg]; exact (below_size (by repeat (first | (with_reducible first | exact HB.out | apply below_alloc | apply pw_below_drewN | apply below_drew1 | refine below_set ?_ GE277.out) | exact HB.out))) : w.heap.size ≤ gb283)); have n6_ := n5_; have n7_ := Aside0.mk ((by rw [hg]; exact Nat.ne_of_lt (blk_lt (g := gb277) (o := .cells #[.int .i64 t271, .int .i64 t272, .slice Ao10 t273.length co10] 66 (0, 0)) (by (with_reducible repeat (first | refine blk_drewN ?_ _ | refine blk_drew ?_ | refine blk_alloc ?_ _)); exact BK277.out)) : gb277 ≠ gb283)); have n8_ := Aside0.mk ((by rw [hg]; exact Nat.ne_of_gt (blk_lt (g := gb277) (o := .cells #[.int .i64 t271, .int .i64 t272, .slice Ao10 t273.length co10] 66 (0, 0)) (by (with_reducible repeat (first | refine blk_drewN ?_ _ | refine blk_drew ?_ | refine blk_alloc ?_ _)); exact BK277.out)) : gb283 ≠ gb277)); clear HO275; clear HO282; clear BK277; clear HB; have HO275 := n0_; have HO282 := n1_; have BK277 := n2_; have HB := n3_; have BK283 := n4_; have GW283 := n5_; have GE283 := n6_; have NB277_283 := n7_; have NB283_277 := n8_; clear n0_ n1_ n2_ n3_ n4_ n5_ n6_ n7_ n8_; clear hb hbox hg; have hnb13 := NB283_277.out; have hnc13 := NB277_283.out; have hcz14_0 : w12.cell? ⟨gb283, 0, none⟩ = some (.int .i64 0) := (blk_cell BK283.out 0).trans rfl; have hcz14_1 : w12.cell? ⟨gb283, 1, none⟩ = some (.int .i64 0) := (blk_cell BK283.out 1).trans rfl; have hcz14_2 : w12.cell? ⟨gb283, 2, none⟩ = some (.slice none 0 0) := (blk_cell BK283.out 2).trans rfl; have hfz14_0 := blk_frozen BK283.out 0; have hfz14_1 := blk_frozen BK283.out 1; have hfz14_2 := blk_frozen BK283.out 2; obtain ⟨Ao15, co15, eo15⟩ := Kd.R_slice HO282.out; subst eo15; have hcz16_0 : w12.cell? ⟨gb277, 0, none⟩ = some (.int .i64 t271) := (blk_cell BK277.out 0).trans rfl; have hcz16_1 : w12.cell? ⟨gb277, 1, none⟩ = some (.int .i64 t272) := (blk_cell BK277.out 1).trans rfl; have hcz16_2 : w12.cell? ⟨gb277, 2, none⟩ = some (.slice Ao10 t273.length co10) := (blk_cell BK277.out 2).trans rfl; have hfz16_0 := blk_frozen BK277.out 0; have hfz16_1 := blk_frozen BK277.out 1; have hfz16_2 := blk_frozen BK277.out 2) | (go_at_call 46; (with_reducible refine (spec_Smooth.calls k t271 t272 _ _ t273 t276 t284 t285 t286 _ ?side1 ?side2 A5.out).mono ?_); (case side1 => refine (Kd.R_reads' (e := 3) (base := w.heap.size) (ok := fun k_ => (True ∧ some k_ ≠ (.slice Ao15 t280.length co15 : Value).ownBlock)) (n := t273.length) (c := co10) ?_).2.2; exact (by (with_reducible repeat (first | apply Kd.R_alloc | apply Kd.R_drewN | apply Kd.R_drew)); exact (Kd.R_mono (Kd.R_far (p := ⟨gb283, 2, none⟩) (Kd.R_far (p := ⟨gb283, 1, none⟩) (Kd.R_far (p := ⟨gb283, 0, none⟩) (Kd.R_types HO275.out BK283.out (by decide)) (fun _ hk => hk.2) (.int .i64 t278)) (fun _ hk => hk.2) (.int .i64 t279)) (fun _ hk => hk.2) (.slice Ao15 t280.length co15)) (fun _ h_ => h_.1)))); (case side2 => exact (Kd.R_reads' HO275.out).2.1); rintro e w17 ⟨v287, rfl, ho0, hb⟩; have n0_ := Aside0.mk (Kd.R_elder' (by (with_reducible repeat (first | apply Kd.R_alloc | apply Kd.R_drewN | apply Kd.R_drew)); exact (Kd.R_mono (Kd.R_far (p := ⟨gb283, 2, none⟩) (Kd.R_far (p := ⟨gb283, 1, none⟩) (Kd.R_far (p := ⟨gb283, 0, none⟩) (Kd.R_types HO275.out BK283.out (by decide)) (fun _ hk => hk.2) (.int .i64 t278)) (fun _ hk => hk.2) (.int .i64 t279)) (fun _ hk => hk.2) (.slice Ao15 t280.length co15)) (fun _ h_ => h_.1))) (Kd.R_base ho0) hb); have n1_ := Aside0.mk (Kd.R_elder' (by (with_reducible repeat (first | apply Kd.R_alloc | apply Kd.R_drewN | apply Kd.R_drew)); exact (Kd.R_mono (Kd.R_far (p := ⟨gb283, 2, none⟩) (Kd.R_far (p := ⟨gb283, 1, none⟩) (Kd.R_far (p := ⟨gb283, 0, none⟩) (Kd.R_types HO282.out BK283.out (by decide)) (fun _ hk => hk.2) (.int .i64 t278)) (fun _ hk => hk.2) (.int .i64 t279)) (fun _ hk => hk.2) (.slice Ao15 t280.length co15)) (fun _ h_ => h_.1))) (Kd.R_base ho0) hb); have n2_ := Aside0.mk (Kd.R_lower (Kd.R_new' (Kd.R_new' ho0 (Kd.R_lt (by (with_reducible repeat (first | apply Kd.R_alloc | apply Kd.R_drewN | apply Kd.R_drew)); exact (Kd.R_mono (Kd.R_far (p := ⟨gb283, 2, none⟩) (Kd.R_far (p := ⟨gb283, 1, none⟩) (Kd.R_far (p := ⟨gb283, 0, none⟩) (Kd.R_types HO275.out BK283.out (by decide)) (fun _ hk => hk.2) (.int .i64 t278)) (fun _ hk => hk.2) (.int .i64 t279)) (fun _ hk => hk.2) (.slice Ao15 t280.length co15)) (fun _ h_ => h_.1))))) (Kd.R_lt (by (with_reducible repeat (first | apply Kd.R_alloc | apply Kd.R_drewN | apply Kd.R_drew)); exact (Kd.R_mono (Kd.R_far (p := ⟨gb283, 2, none⟩) (Kd.R_far (p := ⟨gb283, 1, none⟩) (Kd.R_far (p := ⟨gb283, 0, none⟩) (Kd.R_types HO282.out BK283.out (by decide)) (fun _ hk => hk.2) (.int .i64 t278)) (fun _ hk => hk.2) (.int .i64 t279)) (fun _ hk => hk.2) (.slice Ao15 t280.length co15)) (fun _ h_ => h_.1))))) (below_size (by repeat (first | (with_reducible first | exact HB.out | apply below_alloc | apply pw_below_drewN | apply below_drew1 | refine below_set ?_ GE277.out | refine below_set ?_ GE283.out) | exact HB.out)))); have n3_ := Aside0.mk (blk_below (g := gb277) (o := .cells #[.int .i64 t271, .int .i64 t272, .slice Ao10 t273.length co10] 66 (0, 0)) (by (with_reducible repeat (first | refine blk_drewN ?_ _ | refine blk_drew ?_ | refine blk_alloc ?_ _)); refine blk_far ?_ NB277_283.out _; (with_reducible repeat (first | refine blk_drewN ?_ _ | refine blk_drew ?_ | refine blk_alloc ?_ _)); refine blk_far ?_ NB277_283.out _; (with_reducible repeat (first | refine blk_drewN ?_ _ | refine blk_drew ?_ | refine blk_alloc ?_ _)); refine blk_far ?_ NB277_283.out _; (with_reducible repeat (first | refine blk_drewN ?_ _ | refine blk_drew ?_ | refine blk_alloc ?_ _)); exact BK277.out) hb); have n4_ := Aside0.mk (blk_below (g := gb283) (o := .cells #[.int .i64 t278, .int .i64 t279, .slice Ao15 t280.length co15] 66 (0, 0)) (by (with_reducible repeat (first | refine blk_drewN ?_ _ | refine blk_drew ?_ | refine blk_alloc ?_ _)); refine blk_put (cs := #[.int .i64 t278, .int .i64 t279, .slice none 0 0]) ?_ 2 _ rfl; (with_reducible repeat (first | refine blk_drewN ?_ _ | refine blk_drew ?_ | refine blk_alloc ?_ _)); refine blk_put (cs := #[.int .i64 t278, .int .i64 0, .slice none 0 0]) ?_ 1 _ rfl; (with_reducible repeat (first | refine blk_drewN ?_ _ | refine blk_drew ?_ | refine blk_alloc ?_ _)); refine blk_put (cs := #[.int .i64 0, .int .i64 0, .slice none 0 0]) ?_ 0 _ rfl; (with_reducible repeat (first | refine blk_drewN ?_ _ | refine blk_drew ?_ | refine blk_alloc ?_ _)); exact BK283.out) hb); have n5_ := Aside0.mk (below_step (by repeat (first | (with_reducible first | exact HB.out | apply below_alloc | apply pw_below_drewN | apply below_drew1 | refine below_set ?_ GE277.out | refine below_set ?_ GE283.out) | exact HB.out)) hb); clear HO275; clear HO282; clear BK277; clear BK283; clear HB; have HO275 := n0_; have HO282 := n1_; have HO288 := n2_; have BK277 := n3_; have BK283 := n4_; have HB := n5_; clear n0_ n1_ n2_ n3_ n4_ n5_; (try clear hb); (try clear hb2); (try clear hk); (try clear hi); (try clear ho0)) | ((with_reducible refine gate_dst (N := 6) rfl ?_); refine box_event ?hg (N := 6) ?hd (cs := #[.int .i64 0, .int .i64 0, .slice none 0 0]) (t := 66) ?hr ?_; (case hd => rfl); (case hg => rfl); (case hr => first | (go_simp; done) | (go_simp; rfl)); intro gb289 hg w18 hbox hb; have n0_ := Aside0.mk (Kd.R_below (by (with_reducible repeat (first | apply Kd.R_alloc | apply Kd.R_drewN | apply Kd.R_drew)); exact HO275.out) hb); have n1_ := Aside0.mk (Kd.R_below (by (with_reducible repeat (first | apply Kd.R_alloc | apply Kd.R_drewN | apply Kd.R_drew)); exact HO282.out) hb); have n2_ := Aside0.mk (Kd.R_below (by (with_reducible repeat (first | apply Kd.R_alloc | apply Kd.R_drewN | apply Kd.R_drew)); exact HO288.out) hb); have n3_ := Aside0.mk (blk_below (g := gb277) (o := .cells #[.int .i64 t271, .int .i64 t272, .slice Ao10 t273.length co10] 66 (0, 0)) (by (with_reducible repeat (first | refine blk_drewN ?_ _ | refine blk_drew ?_ | refine blk_alloc ?_ _)); exact BK277.out) hb); have n4_ := Aside0.mk (blk_below (g := gb283) (o := .cells #[.int .i64 t278, .int .i64 t279, .slice Ao15 t280.length co15] 66 (0, 0)) (by (with_reducible repeat (first | refine blk_drewN ?_ _ | refine blk_drew ?_ | refine blk_alloc ?_ _)); exact BK283.out) hb); have n5_ := Aside0.mk (below_step (by repeat (first | (with_reducible first | exact HB.out | apply below_alloc | apply pw_below_drewN | apply below_drew1 | refine below_set ?_ GE277.out | refine below_set ?_ GE283.out) | exact HB.out)) hb); have n6_ := Aside0.mk (hbox); have n7_ := Aside0.mk ((by rw [hg]; exact (below_size (by repeat (first | (with_reducible first | exact HB.out | apply below_alloc | apply pw_below_drewN | apply below_drew1 | refine below_set ?_ GE277.out | refine below_set ?_ GE283.out) | exact HB.out))) : w.heap.size ≤ gb289)); have n8_ := n7_; have n9_ := Aside0.mk ((by rw [hg]; exact Nat.ne_of_lt (blk_lt (g := gb277) (o := .cells #[.int .i64 t271, .int .i64 t272, .slice Ao10 t273.length co10] 66 (0, 0)) (by (with_reducible repeat (first | refine blk_drewN ?_ _ | refine blk_drew ?_ | refine blk_alloc ?_ _)); exact BK277.out)) : gb277 ≠ gb289)); have n10_ := Aside0.mk ((by rw [hg]; exact Nat.ne_of_gt (blk_lt (g := gb277) (o := .cells #[.int .i64 t271, .int .i64 t272, .slice Ao10 t273.length co10] 66 (0, 0)) (by (with_reducible repeat (first | refine blk_drewN ?_ _ | refine blk_drew ?_ | refine blk_alloc ?_ _)); exact BK277.out)) : gb289 ≠ gb277)); have n11_ := Aside0.mk ((by rw [hg]; exact Nat.ne_of_lt (blk_lt (g := gb283) (o := .cells #[.int .i64 t278, .int .i64 t279, .slice Ao15 t280.length co15] 66 (0, 0)) (by (with_reducible repeat (first | refine blk_drewN ?_ _ | refine blk_drew ?_ | refine blk_alloc ?_ _)); exact BK283.out)) : gb283 ≠ gb289)); have n12_ := Aside0.mk ((by rw [hg]; exact Nat.ne_of_gt (blk_lt (g := gb283) (o := .cells #[.int .i64 t278, .int .i64 t279, .slice Ao15 t280.length co15] 66 (0, 0)) (by (with_reducible repeat (first | refine blk_drewN ?_ _ | refine blk_drew ?_ | refine blk_alloc ?_ _)); exact BK283.out)) : gb289 ≠ gb283)); clear HO275; clear HO282; clear HO288; clear BK277; clear BK283; clear HB; have HO275 := n0_; have HO282 := n1_; have HO288 := n2_; have BK277 := n3_; have BK283 := n4_; have HB := n5_; have BK289 := n6_; have GW289 := n7_; have GE289 := n8_; have NB277_289 := n9_; have NB289_277 := n10_; have NB283_289 := n11_; have NB289_283 := n12_; clear n0_ n1_ n2_ n3_ n4_ n5_ n6_ n7_ n8_ n9_ n10_ n11_ n12_; clear hb hbox hg; have hnb19 := NB289_277.out; have hnc19 := NB277_289.out; have hnb20 := NB289_283.out; have hnc20 := NB283_289.out; have hcz21_0 : w18.cell? ⟨gb289, 0, none⟩ = some (.int .i64 0) := (blk_cell BK289.out 0).trans rfl; have hcz21_1 : w18.cell? ⟨gb289, 1, none⟩ = some (.int .i64 0) := (blk_cell BK289.out 1).trans rfl; have hcz21_2 : w18.cell? ⟨gb289, 2, none⟩ = some (.slice none 0 0) := (blk_cell BK289.out 2).trans rfl; have hfz21_0 := blk_frozen BK289.out 0; have hfz21_1 := blk_frozen BK289.out 1; have hfz21_2 := blk_frozen BK289.out 2; obtain ⟨Ao22, co22, eo22⟩ := Kd.R_slice HO288.out; subst eo22)))
  (try simp only [Act.put, List.setIfInBounds_toArray, List.set_cons_zero, List.set_cons_succ])
  go_cut [38] (fun v38 wc => ∃ (kq : Nat) (x38_5 : Bool), v38 = .bool x38_5 ∧ Aside0 (laws_FnSmooth.j0 kq t276 x38_5 t271 t272 t273 t278 t279 t280 = some r) ∧ Aside0 (kq ≤ k) ∧ Aside0 (Kd.R (Kd.int .i64) 3 wc w.heap.size (fun k_ => some k_ ≠ ((.slice Ao15 t280.length co15) : Value).ownBlock ∧ some k_ ≠ ((.slice Ao22 t286.length co22) : Value).ownBlock) (.slice Ao10 t273.length co10) t273) ∧ Aside0 (Kd.R (Kd.int .i64) 3 wc w.heap.size (fun k_ => some k_ ≠ ((.slice Ao10 t273.length co10) : Value).ownBlock ∧ some k_ ≠ ((.slice Ao22 t286.length co22) : Value).ownBlock) (.slice Ao15 t280.length co15) t280) ∧ Aside0 (Kd.R (Kd.int .i64) 3 wc w.heap.size (fun k_ => some k_ ≠ ((.slice Ao10 t273.length co10) : Value).ownBlock ∧ some k_ ≠ ((.slice Ao15 t280.length co15) : Value).ownBlock) (.slice Ao22 t286.length co22) t286) ∧ Aside0 (wc.heap[gb277]? = some (.cells #[.int .i64 t271, .int .i64 t272, (.slice Ao10 t273.length co10)] 66 (0, 0))) ∧ Aside0 (wc.heap[gb283]? = some (.cells #[.int .i64 t278, .int .i64 t279, (.slice Ao15 t280.length co15)] 66 (0, 0))) ∧ Aside0 (wc.heap[gb289]? = some (.cells #[.int .i64 t284, .int .i64 t285, (.slice Ao22 t286.length co22)] 66 (0, 0))) ∧ Aside0 (Below w.heap.size w wc))
  case first =>
    have H := HC6.out
    clear HC6
    by_cases c23 : t278 = t284
    rotate_left
    · rw [if_neg c23] at H
      have c23b0 : (t278 == t284) = false := beq_eq_false_iff_ne.mpr c23
      have c23b1 : (t278 != t284) = true := bne_iff_ne.mpr c23
      (first | rw [c23b0] | (simp only [i64_w, i32_w]; rw [c23b0]) | skip)
      have H' := Aside0.mk H
      clear H
      have hnb30 := NB283_277.out
      have hnc30 := NB277_283.out
      have hnb31 := NB283_289.out
      have hnc31 := NB289_283.out
      have hcz32_0 : w18.cell? ⟨gb283, 0, none⟩ = some (.int .i64 t278) := (blk_cell BK283.out 0).trans rfl
      have hcz32_1 : w18.cell? ⟨gb283, 1, none⟩ = some (.int .i64 t279) := (blk_cell BK283.out 1).trans rfl
      have hcz32_2 : w18.cell? ⟨gb283, 2, none⟩ = some (.slice Ao15 t280.length co15) := (blk_cell BK283.out 2).trans rfl
      have hfz32_0 := blk_frozen BK283.out 0
      have hfz32_1 := blk_frozen BK283.out 1
      have hfz32_2 := blk_frozen BK283.out 2
      have hnb33 := NB289_277.out
      have hnc33 := NB277_289.out
      have hcz34_0 : w18.cell? ⟨gb289, 0, none⟩ = some (.int .i64 0) := (blk_cell BK289.out 0).trans rfl
      have hcz34_1 : w18.cell? ⟨gb289, 1, none⟩ = some (.int .i64 0) := (blk_cell BK289.out 1).trans rfl
      have hcz34_2 : w18.cell? ⟨gb289, 2, none⟩ = some (.slice none 0 0) := (blk_cell BK289.out 2).trans rfl
      have hfz34_0 := blk_frozen BK289.out 0
      have hfz34_1 := blk_frozen BK289.out 1
      have hfz34_2 := blk_frozen BK289.out 2
      go_wp2
      repeat (go_quiet (fail); try go_wp2)
      go_meet
      case rel => exact ⟨_, (true), (by first | rfl | (simp; done) | (simp [*]; done)), H', ⟨by first | omega | exact Nat.le_refl _⟩, ⟨by (with_reducible repeat (first | apply Kd.R_alloc | apply Kd.R_drewN | apply Kd.R_drew)); exact Kd.R_mono (Kd.R_far (p := ⟨gb289, 2, none⟩) (Kd.R_far (p := ⟨gb289, 1, none⟩) (Kd.R_far (p := ⟨gb289, 0, none⟩) (Kd.R_types HO275.out BK289.out (by decide)) (fun _ hk => hk.2) (.int .i64 t284)) (fun _ hk => hk.2) (.int .i64 t285)) (fun _ hk => hk.2) (.slice Ao22 t286.length co22)) (fun _ hk => ⟨hk.1.1.2, hk.1.2⟩)⟩, ⟨by (with_reducible repeat (first | apply Kd.R_alloc | apply Kd.R_drewN | apply Kd.R_drew)); exact Kd.R_mono (Kd.R_far (p := ⟨gb289, 2, none⟩) (Kd.R_far (p := ⟨gb289, 1, none⟩) (Kd.R_far (p := ⟨gb289, 0, none⟩) (Kd.R_types HO282.out BK289.out (by decide)) (fun _ hk => hk.2) (.int .i64 t284)) (fun _ hk => hk.2) (.int .i64 t285)) (fun _ hk => hk.2) (.slice Ao22 t286.length co22)) (fun _ hk => ⟨hk.1.1.2, hk.1.2⟩)⟩, ⟨by (with_reducible repeat (first | apply Kd.R_alloc | apply Kd.R_drewN | apply Kd.R_drew)); exact Kd.R_mono (Kd.R_far (p := ⟨gb289, 2, none⟩) (Kd.R_far (p := ⟨gb289, 1, none⟩) (Kd.R_far (p := ⟨gb289, 0, none⟩) (Kd.R_types HO288.out BK289.out (by decide)) (fun _ hk => hk.2) (.int .i64 t284)) (fun _ hk => hk.2) (.int .i64 t285)) (fun _ hk => hk.2) (.slice Ao22 t286.length co22)) (fun _ hk => ⟨hk.1.1.2, hk.1.2⟩)⟩, ⟨by (with_reducible repeat (first | refine blk_drewN ?_ _ | refine blk_drew ?_ | refine blk_alloc ?_ _)); refine blk_far ?_ NB277_289.out _; (with_reducible repeat (first | refine blk_drewN ?_ _ | refine blk_drew ?_ | refine blk_alloc ?_ _)); refine blk_far ?_ NB277_289.out _; (with_reducible repeat (first | refine blk_drewN ?_ _ | refine blk_drew ?_ | refine blk_alloc ?_ _)); refine blk_far ?_ NB277_289.out _; (with_reducible repeat (first | refine blk_drewN ?_ _ | refine blk_drew ?_ | refine blk_alloc ?_ _)); exact BK277.out⟩, ⟨by (with_reducible repeat (first | refine blk_drewN ?_ _ | refine blk_drew ?_ | refine blk_alloc ?_ _)); refine blk_far ?_ NB283_289.out _; (with_reducible repeat (first | refine blk_drewN ?_ _ | refine blk_drew ?_ | refine blk_alloc ?_ _)); refine blk_far ?_ NB283_289.out _; (with_reducible repeat (first | refine blk_drewN ?_ _ | refine blk_drew ?_ | refine blk_alloc ?_ _)); refine blk_far ?_ NB283_289.out _; (with_reducible repeat (first | refine blk_drewN ?_ _ | refine blk_drew ?_ | refine blk_alloc ?_ _)); exact BK283.out⟩, ⟨by (with_reducible repeat (first | refine blk_drewN ?_ _ | refine blk_drew ?_ | refine blk_alloc ?_ _)); refine blk_put (cs := #[.int .i64 t284, .int .i64 t285, .slice none 0 0]) ?_ 2 _ rfl; (with_reducible repeat (first | refine blk_drewN ?_ _ | refine blk_drew ?_ | refine blk_alloc ?_ _)); refine blk_put (cs := #[.int .i64 t284, .int .i64 0, .slice none 0 0]) ?_ 1 _ rfl; (with_reducible repeat (first | refine blk_drewN ?_ _ | refine blk_drew ?_ | refine blk_alloc ?_ _)); refine blk_put (cs := #[.int .i64 0, .int .i64 0, .slice none 0 0]) ?_ 0 _ rfl; (with_reducible repeat (first | refine blk_drewN ?_ _ | refine blk_drew ?_ | refine blk_alloc ?_ _)); exact BK289.out⟩, ⟨by repeat (first | (with_reducible first | exact HB.out | apply below_alloc | apply pw_below_drewN | apply below_drew1 | refine below_set ?_ GE277.out | refine below_set ?_ GE283.out | refine below_set ?_ GE289.out) | exact HB.out)⟩⟩
    rw [if_pos c23] at H
    have c23b0 : (t278 == t284) = true := beq_iff_eq.mpr c23
    have c23b1 : (t278 != t284) = false := bne_eq_false_iff_eq.mpr c23
    clear c23
    (first | rw [c23b0] | (simp only [i64_w, i32_w]; rw [c23b0]) | skip)
    replace H := Option.bind_eq_some_iff.mp H
    obtain ⟨t290, A240, H⟩ := H
    replace H : (laws_FnSmooth.j0 k t276 (!t290) t271 t272 t273 t278 t279 t280) = some r := H
    have A24 := Aside0.mk A240
    clear A240
    have H' := Aside0.mk H
    clear H
    have hnb25 := NB283_277.out
    have hnc25 := NB277_283.out
    have hnb26 := NB283_289.out
    have hnc26 := NB289_283.out
    have hcz27_0 : w18.cell? ⟨gb283, 0, none⟩ = some (.int .i64 t278) := (blk_cell BK283.out 0).trans rfl
    have hcz27_1 : w18.cell? ⟨gb283, 1, none⟩ = some (.int .i64 t279) := (blk_cell BK283.out 1).trans rfl
    have hcz27_2 : w18.cell? ⟨gb283, 2, none⟩ = some (.slice Ao15 t280.length co15) := (blk_cell BK283.out 2).trans rfl
    have hfz27_0 := blk_frozen BK283.out 0
    have hfz27_1 := blk_frozen BK283.out 1
    have hfz27_2 := blk_frozen BK283.out 2
    have hnb28 := NB289_277.out
    have hnc28 := NB277_289.out
    have hcz29_0 : w18.cell? ⟨gb289, 0, none⟩ = some (.int .i64 0) := (blk_cell BK289.out 0).trans rfl
    have hcz29_1 : w18.cell? ⟨gb289, 1, none⟩ = some (.int .i64 0) := (blk_cell BK289.out 1).trans rfl
    have hcz29_2 : w18.cell? ⟨gb289, 2, none⟩ = some (.slice none 0 0) := (blk_cell BK289.out 2).trans rfl
    have hfz29_0 := blk_frozen BK289.out 0
    have hfz29_1 := blk_frozen BK289.out 1
    have hfz29_2 := blk_frozen BK289.out 2
    iterate 3 (try go_wp2_with (first | (go_at_call 35; (with_reducible refine (laws_wInts.calls k _ _ t280 _ _ t286 t290 _ ?side1 ?side2 ?side3 ?side4 A24.out).mono ?_); (case side1 => refine (Kd.R_reads' (e := 3) (base := w.heap.size) (ok := fun k_ => ((True ∧ some k_ ≠ (.slice Ao10 t273.length co10 : Value).ownBlock) ∧ some k_ ≠ (.slice Ao22 t286.length co22 : Value).ownBlock)) (n := t280.length) (c := co15) ?_).2.2; exact (by (with_reducible repeat (first | apply Kd.R_alloc | apply Kd.R_drewN | apply Kd.R_drew)); exact (Kd.R_mono (Kd.R_far (p := ⟨gb289, 2, none⟩) (Kd.R_far (p := ⟨gb289, 1, none⟩) (Kd.R_far (p := ⟨gb289, 0, none⟩) (Kd.R_types HO282.out BK289.out (by decide)) (fun _ hk => hk.2) (.int .i64 t284)) (fun _ hk => hk.2) (.int .i64 t285)) (fun _ hk => hk.2) (.slice Ao22 t286.length co22)) (fun _ h_ => h_.1)))); (case side2 => exact (Kd.R_reads' HO282.out).2.1); (case side3 => refine (Kd.R_reads' (e := 3) (base := w.heap.size) (ok := fun k_ => ((True ∧ some k_ ≠ (.slice Ao10 t273.length co10 : Value).ownBlock) ∧ some k_ ≠ (.slice Ao15 t280.length co15 : Value).ownBlock)) (n := t286.length) (c := co22) ?_).2.2; exact (by (with_reducible repeat (first | apply Kd.R_alloc | apply Kd.R_drewN | apply Kd.R_drew)); exact (Kd.R_mono (Kd.R_far (p := ⟨gb289, 2, none⟩) (Kd.R_far (p := ⟨gb289, 1, none⟩) (Kd.R_far (p := ⟨gb289, 0, none⟩) (Kd.R_types HO288.out BK289.out (by decide)) (fun _ hk => hk.2) (.int .i64 t284)) (fun _ hk => hk.2) (.int .i64 t285)) (fun _ hk => hk.2) (.slice Ao22 t286.length co22)) (fun _ h_ => h_.1)))); (case side4 => exact (Kd.R_reads' HO288.out).2.1); rintro e w' ⟨rfl, ⟨nd, rfl⟩⟩; (try first | exact ⟨rfl, _, World.drewN_drewN _ _ _⟩ | exact ⟨rfl, _, Eq.trans (World.drewN_drewN _ _ _) (congrArg (World.drewN _) (Nat.add_assoc _ _ _))⟩))); try go_quiet (first | (go_at_call 35; (with_reducible refine (laws_wInts.calls k _ _ t280 _ _ t286 t290 _ ?side1 ?side2 ?side3 ?side4 A24.out).mono ?_); (case side1 => refine (Kd.R_reads' (e := 3) (base := w.heap.size) (ok := fun k_ => ((True ∧ some k_ ≠ (.slice Ao10 t273.length co10 : Value).ownBlock) ∧ some k_ ≠ (.slice Ao22 t286.length co22 : Value).ownBlock)) (n := t280.length) (c := co15) ?_).2.2; exact (by (with_reducible repeat (first | apply Kd.R_alloc | apply Kd.R_drewN | apply Kd.R_drew)); exact (Kd.R_mono (Kd.R_far (p := ⟨gb289, 2, none⟩) (Kd.R_far (p := ⟨gb289, 1, none⟩) (Kd.R_far (p := ⟨gb289, 0, none⟩) (Kd.R_types HO282.out BK289.out (by decide)) (fun _ hk => hk.2) (.int .i64 t284)) (fun _ hk => hk.2) (.int .i64 t285)) (fun _ hk => hk.2) (.slice Ao22 t286.length co22)) (fun _ h_ => h_.1)))); (case side2 => exact (Kd.R_reads' HO282.out).2.1); (case side3 => refine (Kd.R_reads' (e := 3) (base := w.heap.size) (ok := fun k_ => ((True ∧ some k_ ≠ (.slice Ao10 t273.length co10 : Value).ownBlock) ∧ some k_ ≠ (.slice Ao15 t280.length co15 : Value).ownBlock)) (n := t286.length) (c := co22) ?_).2.2; exact (by (with_reducible repeat (first | apply Kd.R_alloc | apply Kd.R_drewN | apply Kd.R_drew)); exact (Kd.R_mono (Kd.R_far (p := ⟨gb289, 2, none⟩) (Kd.R_far (p := ⟨gb289, 1, none⟩) (Kd.R_far (p := ⟨gb289, 0, none⟩) (Kd.R_types HO288.out BK289.out (by decide)) (fun _ hk => hk.2) (.int .i64 t284)) (fun _ hk => hk.2) (.int .i64 t285)) (fun _ hk => hk.2) (.slice Ao22 t286.length co22)) (fun _ h_ => h_.1)))); (case side4 => exact (Kd.R_reads' HO288.out).2.1); rintro e w' ⟨rfl, ⟨nd, rfl⟩⟩; (try first | exact ⟨rfl, _, World.drewN_drewN _ _ _⟩ | exact ⟨rfl, _, Eq.trans (World.drewN_drewN _ _ _) (congrArg (World.drewN _) (Nat.add_assoc _ _ _))⟩))))
    go_meet
    case rel => exact ⟨_, (!t290), (by first | rfl | (simp; done) | (simp [*]; done)), H', ⟨by first | omega | exact Nat.le_refl _⟩, ⟨by (with_reducible repeat (first | apply Kd.R_alloc | apply Kd.R_drewN | apply Kd.R_drew)); exact Kd.R_mono (Kd.R_far (p := ⟨gb289, 2, none⟩) (Kd.R_far (p := ⟨gb289, 1, none⟩) (Kd.R_far (p := ⟨gb289, 0, none⟩) (Kd.R_types HO275.out BK289.out (by decide)) (fun _ hk => hk.2) (.int .i64 t284)) (fun _ hk => hk.2) (.int .i64 t285)) (fun _ hk => hk.2) (.slice Ao22 t286.length co22)) (fun _ hk => ⟨hk.1.1.2, hk.1.2⟩)⟩, ⟨by (with_reducible repeat (first | apply Kd.R_alloc | apply Kd.R_drewN | apply Kd.R_drew)); exact Kd.R_mono (Kd.R_far (p := ⟨gb289, 2, none⟩) (Kd.R_far (p := ⟨gb289, 1, none⟩) (Kd.R_far (p := ⟨gb289, 0, none⟩) (Kd.R_types HO282.out BK289.out (by decide)) (fun _ hk => hk.2) (.int .i64 t284)) (fun _ hk => hk.2) (.int .i64 t285)) (fun _ hk => hk.2) (.slice Ao22 t286.length co22)) (fun _ hk => ⟨hk.1.1.2, hk.1.2⟩)⟩, ⟨by (with_reducible repeat (first | apply Kd.R_alloc | apply Kd.R_drewN | apply Kd.R_drew)); exact Kd.R_mono (Kd.R_far (p := ⟨gb289, 2, none⟩) (Kd.R_far (p := ⟨gb289, 1, none⟩) (Kd.R_far (p := ⟨gb289, 0, none⟩) (Kd.R_types HO288.out BK289.out (by decide)) (fun _ hk => hk.2) (.int .i64 t284)) (fun _ hk => hk.2) (.int .i64 t285)) (fun _ hk => hk.2) (.slice Ao22 t286.length co22)) (fun _ hk => ⟨hk.1.1.2, hk.1.2⟩)⟩, ⟨by (with_reducible repeat (first | refine blk_drewN ?_ _ | refine blk_drew ?_ | refine blk_alloc ?_ _)); refine blk_far ?_ NB277_289.out _; (with_reducible repeat (first | refine blk_drewN ?_ _ | refine blk_drew ?_ | refine blk_alloc ?_ _)); refine blk_far ?_ NB277_289.out _; (with_reducible repeat (first | refine blk_drewN ?_ _ | refine blk_drew ?_ | refine blk_alloc ?_ _)); refine blk_far ?_ NB277_289.out _; (with_reducible repeat (first | refine blk_drewN ?_ _ | refine blk_drew ?_ | refine blk_alloc ?_ _)); exact BK277.out⟩, ⟨by (with_reducible repeat (first | refine blk_drewN ?_ _ | refine blk_drew ?_ | refine blk_alloc ?_ _)); refine blk_far ?_ NB283_289.out _; (with_reducible repeat (first | refine blk_drewN ?_ _ | refine blk_drew ?_ | refine blk_alloc ?_ _)); refine blk_far ?_ NB283_289.out _; (with_reducible repeat (first | refine blk_drewN ?_ _ | refine blk_drew ?_ | refine blk_alloc ?_ _)); refine blk_far ?_ NB283_289.out _; (with_reducible repeat (first | refine blk_drewN ?_ _ | refine blk_drew ?_ | refine blk_alloc ?_ _)); exact BK283.out⟩, ⟨by (with_reducible repeat (first | refine blk_drewN ?_ _ | refine blk_drew ?_ | refine blk_alloc ?_ _)); refine blk_put (cs := #[.int .i64 t284, .int .i64 t285, .slice none 0 0]) ?_ 2 _ rfl; (with_reducible repeat (first | refine blk_drewN ?_ _ | refine blk_drew ?_ | refine blk_alloc ?_ _)); refine blk_put (cs := #[.int .i64 t284, .int .i64 0, .slice none 0 0]) ?_ 1 _ rfl; (with_reducible repeat (first | refine blk_drewN ?_ _ | refine blk_drew ?_ | refine blk_alloc ?_ _)); refine blk_put (cs := #[.int .i64 0, .int .i64 0, .slice none 0 0]) ?_ 0 _ rfl; (with_reducible repeat (first | refine blk_drewN ?_ _ | refine blk_drew ?_ | refine blk_alloc ?_ _)); exact BK289.out⟩, ⟨by repeat (first | (with_reducible first | exact HB.out | apply below_alloc | apply pw_below_drewN | apply below_drew1 | refine below_set ?_ GE277.out | refine below_set ?_ GE283.out | refine below_set ?_ GE289.out) | exact HB.out)⟩⟩
  case rest =>
    clear HC6
    try clear c1
    try clear c2
    try clear c2b0
    try clear c2b1
    try clear c2b2
    try clear p2
    try clear c3
    try clear c8
    try clear c13
    try clear c19
    try clear c20
    try clear c23
    try clear c23b0
    try clear c23b1
    try clear c25
    try clear c26
    try clear c28
    try clear c30
    try clear c31
    try clear c33
    try clear hcz14_0
    try clear hcz14_1
    try clear hcz14_2
    try clear hcz16_0
    try clear hcz16_1
    try clear hcz16_2
    try clear hcz21_0
    try clear hcz21_1
    try clear hcz21_2
    try clear hcz27_0
    try clear hcz27_1
    try clear hcz27_2
    try clear hcz29_0
    try clear hcz29_1
    try clear hcz29_2
    try clear hcz32_0
    try clear hcz32_1
    try clear hcz32_2
    try clear hcz34_0
    try clear hcz34_1
    try clear hcz34_2
    try clear hcz9_0
    try clear hcz9_1
    try clear hcz9_2
    try clear hfz14_0
    try clear hfz14_1
    try clear hfz14_2
    try clear hfz16_0
    try clear hfz16_1
    try clear hfz16_2
    try clear hfz21_0
    try clear hfz21_1
    try clear hfz21_2
    try clear hfz27_0
    try clear hfz27_1
    try clear hfz27_2
    try clear hfz29_0
    try clear hfz29_1
    try clear hfz29_2
    try clear hfz32_0
    try clear hfz32_1
    try clear hfz32_2
    try clear hfz34_0
    try clear hfz34_1
    try clear hfz34_2
    try clear hfz9_0
    try clear hfz9_1
    try clear hfz9_2
    obtain ⟨kq, x38_5, rfl, HA, HJ5, HO_278002, HO_284002, HO_290002, BK277, BK283, BK289, HB⟩ := hcut
    cases kq with
    | zero => exact absurd HA.out (by simp [laws_FnSmooth.j0])
    | succ kj5 =>
      have H := HA.out
      clear HA
      simp only [laws_FnSmooth.j0] at H
      by_cases c35 : x38_5 = true
      · subst c35
        have H1 : (some false) = some r := by rw [if_pos rfl] at H; exact H
        clear H
        have H := H1
        clear H1
        obtain rfl := Option.some.inj H
        go_wp2
        repeat (go_quiet (fail); try go_wp2)
        go_ret
        exact ⟨by first | rfl | (simp [errW_none, errW_some] <;> rfl) | (simp [*, errW_none, errW_some] <;> rfl), by repeat (first | (with_reducible first | exact HB.out | apply below_alloc | apply pw_below_drewN | apply below_drew1 | refine below_set ?_ GE277.out | refine below_set ?_ GE283.out | refine below_set ?_ GE289.out) | exact HB.out)⟩
      replace c35 := Bool.eq_false_iff.mpr c35
      subst c35
      have H1 : (laws_FnSmooth.l0 kj5 t276 (t280.length : Int) 0 t271 t272 t273 t278 t279 t280) = some r := by rw [if_neg (show ¬ (false = true) by decide)] at H; exact H
      clear H
      have H := H1
      clear H1
      have H' := Aside0.mk H
      clear H
      have hnb36 := NB283_277.out
      have hnc36 := NB277_283.out
      have hnb37 := NB283_289.out
      have hnc37 := NB289_283.out
      have hcz38_0 : wc.cell? ⟨gb283, 0, none⟩ = some (.int .i64 t278) := (blk_cell BK283.out 0).trans rfl
      have hcz38_1 : wc.cell? ⟨gb283, 1, none⟩ = some (.int .i64 t279) := (blk_cell BK283.out 1).trans rfl
      have hcz38_2 : wc.cell? ⟨gb283, 2, none⟩ = some (.slice Ao15 t280.length co15) := (blk_cell BK283.out 2).trans rfl
      have hfz38_0 := blk_frozen BK283.out 0
      have hfz38_1 := blk_frozen BK283.out 1
      have hfz38_2 := blk_frozen BK283.out 2
      go_wp2
      repeat (go_quiet (fail); try go_wp2)
      go_loopg [42] kj5 (fun kq v42 w' => ∃ (x42_2 : Int), v42 = .int .i64 x42_2 ∧ Aside0 (laws_FnSmooth.l0 kq t276 (t280.length : Int) x42_2 t271 t272 t273 t278 t279 t280 = some r) ∧ Aside0 (kq ≤ kj5) ∧ Aside0 (Kd.R (Kd.int .i64) 3 w' w.heap.size (fun k_ => some k_ ≠ ((.slice Ao15 t280.length co15) : Value).ownBlock ∧ some k_ ≠ ((.slice Ao22 t286.length co22) : Value).ownBlock) (.slice Ao10 t273.length co10) t273) ∧ Aside0 (Kd.R (Kd.int .i64) 3 w' w.heap.size (fun k_ => some k_ ≠ ((.slice Ao10 t273.length co10) : Value).ownBlock ∧ some k_ ≠ ((.slice Ao22 t286.length co22) : Value).ownBlock) (.slice Ao15 t280.length co15) t280) ∧ Aside0 (Kd.R (Kd.int .i64) 3 w' w.heap.size (fun k_ => some k_ ≠ ((.slice Ao10 t273.length co10) : Value).ownBlock ∧ some k_ ≠ ((.slice Ao15 t280.length co15) : Value).ownBlock) (.slice Ao22 t286.length co22) t286) ∧ Aside0 (w'.heap[gb277]? = some (.cells #[.int .i64 t271, .int .i64 t272, (.slice Ao10 t273.length co10)] 66 (0, 0))) ∧ Aside0 (w'.heap[gb283]? = some (.cells #[.int .i64 t278, .int .i64 t279, (.slice Ao15 t280.length co15)] 66 (0, 0))) ∧ Aside0 (w'.heap[gb289]? = some (.cells #[.int .i64 t284, .int .i64 t285, (.slice Ao22 t286.length co22)] 66 (0, 0))) ∧ Aside0 (Below w.heap.size w w'))
      case atStart => exact ⟨(0), (by first | rfl | (simp; done) | (simp [*]; done)), H', ⟨Nat.le_refl _⟩, ⟨by (with_reducible repeat (first | apply Kd.R_alloc | apply Kd.R_drewN | apply Kd.R_drew)); exact HO_278002.out⟩, ⟨by (with_reducible repeat (first | apply Kd.R_alloc | apply Kd.R_drewN | apply Kd.R_drew)); exact HO_284002.out⟩, ⟨by (with_reducible repeat (first | apply Kd.R_alloc | apply Kd.R_drewN | apply Kd.R_drew)); exact HO_290002.out⟩, ⟨by (with_reducible repeat (first | refine blk_drewN ?_ _ | refine blk_drew ?_ | refine blk_alloc ?_ _)); exact BK277.out⟩, ⟨by (with_reducible repeat (first | refine blk_drewN ?_ _ | refine blk_drew ?_ | refine blk_alloc ?_ _)); exact BK283.out⟩, ⟨by (with_reducible repeat (first | refine blk_drewN ?_ _ | refine blk_drew ?_ | refine blk_alloc ?_ _)); exact BK289.out⟩, ⟨by repeat (first | (with_reducible first | exact HB.out | apply below_alloc | apply pw_below_drewN | apply below_drew1 | refine below_set ?_ GE277.out | refine below_set ?_ GE283.out | refine below_set ?_ GE289.out) | exact HB.out)⟩⟩
      case round =>
        clear H'
        try clear c1
        try clear c2
        try clear c2b0
        try clear c2b1
        try clear c2b2
        try clear p2
        try clear c3
        try clear c8
        try clear c13
        try clear c19
        try clear c20
        try clear c23
        try clear c23b0
        try clear c23b1
        try clear c25
        try clear c26
        try clear c28
        try clear c30
        try clear c31
        try clear c33
        try clear c35
        try clear c36
        try clear c37
        try clear hcz14_0
        try clear hcz14_1
        try clear hcz14_2
        try clear hcz16_0
        try clear hcz16_1
        try clear hcz16_2
        try clear hcz21_0
        try clear hcz21_1
        try clear hcz21_2
        try clear hcz27_0
        try clear hcz27_1
        try clear hcz27_2
        try clear hcz29_0
        try clear hcz29_1
        try clear hcz29_2
        try clear hcz32_0
        try clear hcz32_1
        try clear hcz32_2
        try clear hcz34_0
        try clear hcz34_1
        try clear hcz34_2
        try clear hcz38_0
        try clear hcz38_1
        try clear hcz38_2
        try clear hcz9_0
        try clear hcz9_1
        try clear hcz9_2
        try clear hfz14_0
        try clear hfz14_1
        try clear hfz14_2
        try clear hfz16_0
        try clear hfz16_1
        try clear hfz16_2
        try clear hfz21_0
        try clear hfz21_1
        try clear hfz21_2
        try clear hfz27_0
        try clear hfz27_1
        try clear hfz27_2
        try clear hfz29_0
        try clear hfz29_1
        try clear hfz29_2
        try clear hfz32_0
        try clear hfz32_1
        try clear hfz32_2
        try clear hfz34_0
        try clear hfz34_1
        try clear hfz34_2
        try clear hfz38_0
        try clear hfz38_1
        try clear hfz38_2
        try clear hfz9_0
        try clear hfz9_1
        try clear hfz9_2
        try clear p2
        obtain ⟨x42_2, rfl, HA, HK2, HO_278002, HO_284002, HO_290002, BK277, BK283, BK289, HB⟩ := hrel
        cases gk with
        | zero => exact absurd HA.out (by simp [laws_FnSmooth.l0])
        | succ k2 =>
          have H := HA.out
          clear HA
          simp only [laws_FnSmooth.l0] at H
          by_cases c39 : x42_2 < (t280.length : Int)
          rotate_left
          · rw [if_neg c39] at H
            have c39b0 : decide (x42_2 < (t280.length : Int)) = false := decide_eq_false c39
            clear c39
            obtain rfl := Option.some.inj H
            go_wp2
            repeat (go_quiet (fail); try go_wp2)
            go_ret
            exact ⟨by first | rfl | (simp [errW_none, errW_some] <;> rfl) | (simp [*, errW_none, errW_some] <;> rfl), by repeat (first | (with_reducible first | exact HB.out | apply below_alloc | apply pw_below_drewN | apply below_drew1 | refine below_set ?_ GE277.out | refine below_set ?_ GE283.out | refine below_set ?_ GE289.out) | exact HB.out)⟩
          rw [if_pos c39] at H
          have c39b0 : decide (x42_2 < (t280.length : Int)) = true := decide_eq_true c39
          clear c39
          by_cases c40 : 0 ≤ x42_2
          rotate_left
          · rw [if_neg c40] at H
            exact absurd H (by simp)
          rw [if_pos c40] at H
          have c40b0 : decide (0 ≤ x42_2) = true := decide_eq_true c40
          clear c40
          by_cases c41 : x42_2 < (t280.length : Int)
          rotate_left
          · rw [if_neg c41] at H
            exact absurd H (by simp)
          rw [if_pos c41] at H
          have c41b0 : decide (x42_2 < (t280.length : Int)) = true := decide_eq_true c41
          clear c41
          by_cases c42 : x42_2 < (t273.length : Int)
          rotate_left
          · rw [if_neg c42] at H
            exact absurd H (by simp)
          rw [if_pos c42] at H
          have c42b0 : decide (x42_2 < (t273.length : Int)) = true := decide_eq_true c42
          clear c42
          by_cases c43 : t271 = 0
          · rw [if_pos c43] at H
            exact absurd H (by simp)
          rw [if_neg c43] at H
          have c43b0 : (t271 == 0) = false := beq_eq_false_iff_ne.mpr c43
          have c43b1 : (t271 != 0) = true := bne_iff_ne.mpr c43
          have HC44 := Aside0.mk H
          clear H
          have hnb45 := NB283_277.out
          have hnc45 := NB277_283.out
          have hnb46 := NB283_289.out
          have hnc46 := NB289_283.out
          have hcz47_0 : wr.cell? ⟨gb283, 0, none⟩ = some (.int .i64 t278) := (blk_cell BK283.out 0).trans rfl
          have hcz47_1 : wr.cell? ⟨gb283, 1, none⟩ = some (.int .i64 t279) := (blk_cell BK283.out 1).trans rfl
          have hcz47_2 : wr.cell? ⟨gb283, 2, none⟩ = some (.slice Ao15 t280.length co15) := (blk_cell BK283.out 2).trans rfl
          have hfz47_0 := blk_frozen BK283.out 0
          have hfz47_1 := blk_frozen BK283.out 1
          have hfz47_2 := blk_frozen BK283.out 2
          have p291 : 0 ≤ (x42_2 : Int) := of_decide_eq_true (by first | (with_reducible assumption) | assumption)
          have q291 : x42_2 < (t280.length : Int) := of_decide_eq_true (by first | (with_reducible assumption) | assumption)
          obtain ⟨ad291, e291, hx291_0⟩ := Kd.at_int (Kd.R_reads' HO_284002.out).2.2 x42_2 p291 q291
          cases e291
          replace p291 := eq_true p291
          replace q291 := eq_true q291
          have hnb48 := NB277_289.out
          have hnc48 := NB289_277.out
          have hcz49_0 : wr.cell? ⟨gb277, 0, none⟩ = some (.int .i64 t271) := (blk_cell BK277.out 0).trans rfl
          have hcz49_1 : wr.cell? ⟨gb277, 1, none⟩ = some (.int .i64 t272) := (blk_cell BK277.out 1).trans rfl
          have hcz49_2 : wr.cell? ⟨gb277, 2, none⟩ = some (.slice Ao10 t273.length co10) := (blk_cell BK277.out 2).trans rfl
          have hfz49_0 := blk_frozen BK277.out 0
          have hfz49_1 := blk_frozen BK277.out 1
          have hfz49_2 := blk_frozen BK277.out 2
          have p292 : 0 ≤ (x42_2 : Int) := of_decide_eq_true (by first | (with_reducible assumption) | assumption)
          have q292 : x42_2 < (t273.length : Int) := of_decide_eq_true (by first | (with_reducible assumption) | assumption)
          obtain ⟨ad292, e292, hx292_0⟩ := Kd.at_int (Kd.R_reads' HO_278002.out).2.2 x42_2 p292 q292
          cases e292
          replace p292 := eq_true p292
          replace q292 := eq_true q292
          go_upto_region 15 with (fail)
          repeat (go_quiet (fail); go_upto_region 15 with (fail))
          go_cut [71] (fun v71 wc => ∃ (kq : Nat) (x71_43 : Bool), v71 = .bool x71_43 ∧ Aside0 (laws_FnSmooth.j2 kq t276 (wrap64 ((rd t280 x42_2) - (rd t273 x42_2))) (Int.tmod (wrap64 (Int.tdiv x42_2 t271)) 4) 0 (t280.length : Int) x42_2 x71_43 t271 t272 t273 t278 t279 t280 = some r) ∧ Aside0 (kq ≤ k2) ∧ Aside0 (Kd.R (Kd.int .i64) 3 wc w.heap.size (fun k_ => some k_ ≠ ((.slice (some ad291) t280.length co15) : Value).ownBlock ∧ some k_ ≠ ((.slice Ao22 t286.length co22) : Value).ownBlock) (.slice (some ad292) t273.length co10) t273) ∧ Aside0 (Kd.R (Kd.int .i64) 3 wc w.heap.size (fun k_ => some k_ ≠ ((.slice (some ad292) t273.length co10) : Value).ownBlock ∧ some k_ ≠ ((.slice Ao22 t286.length co22) : Value).ownBlock) (.slice (some ad291) t280.length co15) t280) ∧ Aside0 (Kd.R (Kd.int .i64) 3 wc w.heap.size (fun k_ => some k_ ≠ ((.slice (some ad292) t273.length co10) : Value).ownBlock ∧ some k_ ≠ ((.slice (some ad291) t280.length co15) : Value).ownBlock) (.slice Ao22 t286.length co22) t286) ∧ Aside0 (wc.heap[gb277]? = some (.cells #[.int .i64 t271, .int .i64 t272, (.slice (some ad292) t273.length co10)] 66 (0, 0))) ∧ Aside0 (wc.heap[gb283]? = some (.cells #[.int .i64 t278, .int .i64 t279, (.slice (some ad291) t280.length co15)] 66 (0, 0))) ∧ Aside0 (wc.heap[gb289]? = some (.cells #[.int .i64 t284, .int .i64 t285, (.slice Ao22 t286.length co22)] 66 (0, 0))) ∧ Aside0 (Below w.heap.size w wc))
          case first =>
            have H := HC44.out
            clear HC44
            by_cases c50 : (Int.tmod (Int.tmod x42_2 t271) 4) = 0
            · rw [if_pos c50] at H
              have c50b0 : ((Int.tmod (Int.tmod x42_2 t271) 4) == 0) = true := beq_iff_eq.mpr c50
              have c50b1 : ((Int.tmod (Int.tmod x42_2 t271) 4) != 0) = false := bne_eq_false_iff_eq.mpr c50
              clear c50
              (first | rw [c50b0] | (simp only [i64_w, i32_w]; rw [c50b0]) | skip)
              have H' := Aside0.mk H
              clear H
              go_wp2
              repeat (go_quiet (fail); try go_wp2)
              go_meet
              case rel => exact ⟨_, (true), (by first | rfl | (simp; done) | (simp [*]; done)), H', ⟨by have := HJ5.out; have := HK2.out; first | omega | exact Nat.le_refl _⟩, ⟨by (with_reducible repeat (first | apply Kd.R_alloc | apply Kd.R_drewN | apply Kd.R_drew)); exact HO_278002.out⟩, ⟨by (with_reducible repeat (first | apply Kd.R_alloc | apply Kd.R_drewN | apply Kd.R_drew)); exact HO_284002.out⟩, ⟨by (with_reducible repeat (first | apply Kd.R_alloc | apply Kd.R_drewN | apply Kd.R_drew)); exact HO_290002.out⟩, ⟨by (with_reducible repeat (first | refine blk_drewN ?_ _ | refine blk_drew ?_ | refine blk_alloc ?_ _)); exact BK277.out⟩, ⟨by (with_reducible repeat (first | refine blk_drewN ?_ _ | refine blk_drew ?_ | refine blk_alloc ?_ _)); exact BK283.out⟩, ⟨by (with_reducible repeat (first | refine blk_drewN ?_ _ | refine blk_drew ?_ | refine blk_alloc ?_ _)); exact BK289.out⟩, ⟨by repeat (first | (with_reducible first | exact HB.out | apply below_alloc | apply pw_below_drewN | apply below_drew1 | refine below_set ?_ GE277.out | refine below_set ?_ GE283.out | refine below_set ?_ GE289.out) | exact HB.out)⟩⟩
            rw [if_neg c50] at H
            have c50b0 : ((Int.tmod (Int.tmod x42_2 t271) 4) == 0) = false := beq_eq_false_iff_ne.mpr c50
            have c50b1 : ((Int.tmod (Int.tmod x42_2 t271) 4) != 0) = true := bne_iff_ne.mpr c50
            (first | rw [c50b0] | (simp only [i64_w, i32_w]; rw [c50b0]) | skip)
            have H' := Aside0.mk H
            clear H
            go_wp2
            repeat (go_quiet (fail); try go_wp2)
            go_meet
            case rel => exact ⟨_, (((Int.tmod (Int.tmod x42_2 t271) 4) == 3)), (by first | rfl | (simp; done) | (simp [*]; done)), H', ⟨by have := HJ5.out; have := HK2.out; first | omega | exact Nat.le_refl _⟩, ⟨by (with_reducible repeat (first | apply Kd.R_alloc | apply Kd.R_drewN | apply Kd.R_drew)); exact HO_278002.out⟩, ⟨by (with_reducible repeat (first | apply Kd.R_alloc | apply Kd.R_drewN | apply Kd.R_drew)); exact HO_284002.out⟩, ⟨by (with_reducible repeat (first | apply Kd.R_alloc | apply Kd.R_drewN | apply Kd.R_drew)); exact HO_290002.out⟩, ⟨by (with_reducible repeat (first | refine blk_drewN ?_ _ | refine blk_drew ?_ | refine blk_alloc ?_ _)); exact BK277.out⟩, ⟨by (with_reducible repeat (first | refine blk_drewN ?_ _ | refine blk_drew ?_ | refine blk_alloc ?_ _)); exact BK283.out⟩, ⟨by (with_reducible repeat (first | refine blk_drewN ?_ _ | refine blk_drew ?_ | refine blk_alloc ?_ _)); exact BK289.out⟩, ⟨by repeat (first | (with_reducible first | exact HB.out | apply below_alloc | apply pw_below_drewN | apply below_drew1 | refine below_set ?_ GE277.out | refine below_set ?_ GE283.out | refine below_set ?_ GE289.out) | exact HB.out)⟩⟩
          case rest =>
            clear HC44
            try clear c1
            try clear c2
            try clear c2b0
            try clear c2b1
            try clear c2b2
            try clear p2
            try clear q2
            try clear hx2
            try clear c3
            try clear c4
            try clear c5
            try clear p6
            try clear c8
            try clear c13
            try clear c19
            try clear c20
            try clear c23
            try clear c23b0
            try clear c23b1
            try clear c25
            try clear c26
            try clear c28
            try clear p29
            try clear q29
            try clear hx29
            try clear c30
            try clear c31
            try clear c33
            try clear c35
            try clear c36
            try clear c37
            try clear c39
            try clear c39b0
            try clear c40
            try clear c40b0
            try clear c41
            try clear c41b0
            try clear c42
            try clear c42b0
            try clear c43
            try clear c43b0
            try clear c43b1
            try clear c45
            try clear c46
            try clear c48
            try clear c50
            try clear c50b0
            try clear c50b1
            try clear hcz14_0
            try clear hcz14_1
            try clear hcz14_2
            try clear hcz16_0
            try clear hcz16_1
            try clear hcz16_2
            try clear hcz21_0
            try clear hcz21_1
            try clear hcz21_2
            try clear hcz27_0
            try clear hcz27_1
            try clear hcz27_2
            try clear hcz29_0
            try clear hcz29_1
            try clear hcz29_2
            try clear hcz32_0
            try clear hcz32_1
            try clear hcz32_2
            try clear hcz34_0
            try clear hcz34_1
            try clear hcz34_2
            try clear hcz38_0
            try clear hcz38_1
            try clear hcz38_2
            try clear hcz47_0
            try clear hcz47_1
            try clear hcz47_2
            try clear hcz49_0
            try clear hcz49_1
            try clear hcz49_2
            try clear hcz9_0
            try clear hcz9_1
            try clear hcz9_2
            try clear hfz14_0
            try clear hfz14_1
            try clear hfz14_2
            try clear hfz16_0
            try clear hfz16_1
            try clear hfz16_2
            try clear hfz21_0
            try clear hfz21_1
            try clear hfz21_2
            try clear hfz27_0
            try clear hfz27_1
            try clear hfz27_2
            try clear hfz29_0
            try clear hfz29_1
            try clear hfz29_2
            try clear hfz32_0
            try clear hfz32_1
            try clear hfz32_2
            try clear hfz34_0
            try clear hfz34_1
            try clear hfz34_2
            try clear hfz38_0
            try clear hfz38_1
            try clear hfz38_2
            try clear hfz47_0
            try clear hfz47_1
            try clear hfz47_2
            try clear hfz49_0
            try clear hfz49_1
            try clear hfz49_2
            try clear hfz9_0
            try clear hfz9_1
            try clear hfz9_2
            try clear hx291_0
            try clear hx292_0
            try clear p2
            try clear p291
            try clear p292
            try clear q291
            try clear q292
            obtain ⟨kq, x71_43, rfl, HA, HJ43, HO_278002, HO_284002, HO_290002, BK277, BK283, BK289, HB⟩ := hcut
            cases kq with
            | zero => exact absurd HA.out (by simp [laws_FnSmooth.j2])
            | succ kj43 =>
              have H := HA.out
              clear HA
              simp only [laws_FnSmooth.j2] at H
              have HC51 := Aside0.mk H
              clear H
              go_upto_if 71 with (fail)
              repeat (go_quiet (fail); go_upto_if 71 with (fail))
              go_cut [11] (fun v11 wc => ∃ (kq : Nat) (x11_50 : Int), v11 = .int .i64 x11_50 ∧ Aside0 (laws_FnSmooth.j3 kq t276 (wrap64 ((rd t280 x42_2) - (rd t273 x42_2))) (Int.tmod (wrap64 (Int.tdiv x42_2 t271)) 4) x11_50 (t280.length : Int) x42_2 t271 t272 t273 t278 t279 t280 = some r) ∧ Aside0 (kq ≤ kj43) ∧ Aside0 (Kd.R (Kd.int .i64) 3 wc w.heap.size (fun k_ => some k_ ≠ ((.slice (some ad291) t280.length co15) : Value).ownBlock ∧ some k_ ≠ ((.slice Ao22 t286.length co22) : Value).ownBlock) (.slice (some ad292) t273.length co10) t273) ∧ Aside0 (Kd.R (Kd.int .i64) 3 wc w.heap.size (fun k_ => some k_ ≠ ((.slice (some ad292) t273.length co10) : Value).ownBlock ∧ some k_ ≠ ((.slice Ao22 t286.length co22) : Value).ownBlock) (.slice (some ad291) t280.length co15) t280) ∧ Aside0 (Kd.R (Kd.int .i64) 3 wc w.heap.size (fun k_ => some k_ ≠ ((.slice (some ad292) t273.length co10) : Value).ownBlock ∧ some k_ ≠ ((.slice (some ad291) t280.length co15) : Value).ownBlock) (.slice Ao22 t286.length co22) t286) ∧ Aside0 (wc.heap[gb277]? = some (.cells #[.int .i64 t271, .int .i64 t272, (.slice (some ad292) t273.length co10)] 66 (0, 0))) ∧ Aside0 (wc.heap[gb283]? = some (.cells #[.int .i64 t278, .int .i64 t279, (.slice (some ad291) t280.length co15)] 66 (0, 0))) ∧ Aside0 (wc.heap[gb289]? = some (.cells #[.int .i64 t284, .int .i64 t285, (.slice Ao22 t286.length co22)] 66 (0, 0))) ∧ Aside0 (Below w.heap.size w wc))
              case first =>
                have H := HC51.out
                clear HC51
                by_cases c52 : x71_43 = true
                · subst c52
                  have H1 : (laws_FnSmooth.j3 kj43 t276 (wrap64 ((rd t280 x42_2) - (rd t273 x42_2))) (Int.tmod (wrap64 (Int.tdiv x42_2 t271)) 4) 1 (t280.length : Int) x42_2 t271 t272 t273 t278 t279 t280) = some r := by rw [if_pos rfl] at H; rw [show wrap64 (0 + 1) = (1 : Int) by unfold wrap64; omega] at H; exact H
                  clear H
                  have H := H1
                  clear H1
                  have H' := Aside0.mk H
                  clear H
                  go_wp2
                  repeat (go_quiet (fail); try go_wp2)
                  go_meet
                  case rel => exact ⟨_, 1, (by first | rfl | (simp; done) | (simp [*]; done)), H', ⟨by have := HJ5.out; have := HK2.out; have := HJ43.out; first | omega | exact Nat.le_refl _⟩, ⟨by (with_reducible repeat (first | apply Kd.R_alloc | apply Kd.R_drewN | apply Kd.R_drew)); exact HO_278002.out⟩, ⟨by (with_reducible repeat (first | apply Kd.R_alloc | apply Kd.R_drewN | apply Kd.R_drew)); exact HO_284002.out⟩, ⟨by (with_reducible repeat (first | apply Kd.R_alloc | apply Kd.R_drewN | apply Kd.R_drew)); exact HO_290002.out⟩, ⟨by (with_reducible repeat (first | refine blk_drewN ?_ _ | refine blk_drew ?_ | refine blk_alloc ?_ _)); exact BK277.out⟩, ⟨by (with_reducible repeat (first | refine blk_drewN ?_ _ | refine blk_drew ?_ | refine blk_alloc ?_ _)); exact BK283.out⟩, ⟨by (with_reducible repeat (first | refine blk_drewN ?_ _ | refine blk_drew ?_ | refine blk_alloc ?_ _)); exact BK289.out⟩, ⟨by repeat (first | (with_reducible first | exact HB.out | apply below_alloc | apply pw_below_drewN | apply below_drew1 | refine below_set ?_ GE277.out | refine below_set ?_ GE283.out | refine below_set ?_ GE289.out) | exact HB.out)⟩⟩
                replace c52 := Bool.eq_false_iff.mpr c52
                subst c52
                have H1 : (laws_FnSmooth.j3 kj43 t276 (wrap64 ((rd t280 x42_2) - (rd t273 x42_2))) (Int.tmod (wrap64 (Int.tdiv x42_2 t271)) 4) 0 (t280.length : Int) x42_2 t271 t272 t273 t278 t279 t280) = some r := by rw [if_neg (show ¬ (false = true) by decide)] at H; exact H
                clear H
                have H := H1
                clear H1
                have H' := Aside0.mk H
                clear H
                go_wp2
                repeat (go_quiet (fail); try go_wp2)
                go_meet
                case rel => exact ⟨_, (0), (by first | rfl | (simp; done) | (simp [*]; done)), H', ⟨by have := HJ5.out; have := HK2.out; have := HJ43.out; first | omega | exact Nat.le_refl _⟩, ⟨by (with_reducible repeat (first | apply Kd.R_alloc | apply Kd.R_drewN | apply Kd.R_drew)); exact HO_278002.out⟩, ⟨by (with_reducible repeat (first | apply Kd.R_alloc | apply Kd.R_drewN | apply Kd.R_drew)); exact HO_284002.out⟩, ⟨by (with_reducible repeat (first | apply Kd.R_alloc | apply Kd.R_drewN | apply Kd.R_drew)); exact HO_290002.out⟩, ⟨by (with_reducible repeat (first | refine blk_drewN ?_ _ | refine blk_drew ?_ | refine blk_alloc ?_ _)); exact BK277.out⟩, ⟨by (with_reducible repeat (first | refine blk_drewN ?_ _ | refine blk_drew ?_ | refine blk_alloc ?_ _)); exact BK283.out⟩, ⟨by (with_reducible repeat (first | refine blk_drewN ?_ _ | refine blk_drew ?_ | refine blk_alloc ?_ _)); exact BK289.out⟩, ⟨by repeat (first | (with_reducible first | exact HB.out | apply below_alloc | apply pw_below_drewN | apply below_drew1 | refine below_set ?_ GE277.out | refine below_set ?_ GE283.out | refine below_set ?_ GE289.out) | exact HB.out)⟩⟩
              case rest =>
                clear HC51
                try clear c1
                try clear c2
                try clear c2b0
                try clear c2b1
                try clear c2b2
                try clear p2
                try clear q2
                try clear hx2
                try clear c3
                try clear c4
                try clear c5
                try clear p6
                try clear c8
                try clear c13
                try clear c19
                try clear c20
                try clear c23
                try clear c23b0
                try clear c23b1
                try clear c25
                try clear c26
                try clear c28
                try clear p29
                try clear q29
                try clear hx29
                try clear c30
                try clear c31
                try clear c33
                try clear c35
                try clear c36
                try clear c37
                try clear c39
                try clear c39b0
                try clear c40
                try clear c40b0
                try clear c41
                try clear c41b0
                try clear c42
                try clear c42b0
                try clear c43
                try clear c43b0
                try clear c43b1
                try clear c45
                try clear c46
                try clear c48
                try clear c50
                try clear c50b0
                try clear c50b1
                try clear c52
                try clear hcz14_0
                try clear hcz14_1
                try clear hcz14_2
                try clear hcz16_0
                try clear hcz16_1
                try clear hcz16_2
                try clear hcz21_0
                try clear hcz21_1
                try clear hcz21_2
                try clear hcz27_0
                try clear hcz27_1
                try clear hcz27_2
                try clear hcz29_0
                try clear hcz29_1
                try clear hcz29_2
                try clear hcz32_0
                try clear hcz32_1
                try clear hcz32_2
                try clear hcz34_0
                try clear hcz34_1
                try clear hcz34_2
                try clear hcz38_0
                try clear hcz38_1
                try clear hcz38_2
                try clear hcz47_0
                try clear hcz47_1
                try clear hcz47_2
                try clear hcz49_0
                try clear hcz49_1
                try clear hcz49_2
                try clear hcz9_0
                try clear hcz9_1
                try clear hcz9_2
                try clear hfz14_0
                try clear hfz14_1
                try clear hfz14_2
                try clear hfz16_0
                try clear hfz16_1
                try clear hfz16_2
                try clear hfz21_0
                try clear hfz21_1
                try clear hfz21_2
                try clear hfz27_0
                try clear hfz27_1
                try clear hfz27_2
                try clear hfz29_0
                try clear hfz29_1
                try clear hfz29_2
                try clear hfz32_0
                try clear hfz32_1
                try clear hfz32_2
                try clear hfz34_0
                try clear hfz34_1
                try clear hfz34_2
                try clear hfz38_0
                try clear hfz38_1
                try clear hfz38_2
                try clear hfz47_0
                try clear hfz47_1
                try clear hfz47_2
                try clear hfz49_0
                try clear hfz49_1
                try clear hfz49_2
                try clear hfz9_0
                try clear hfz9_1
                try clear hfz9_2
                try clear hx291_0
                try clear hx292_0
                try clear p2
                try clear p29
                try clear p291
                try clear p292
                try clear p6
                try clear q2
                try clear q29
                try clear q291
                try clear q292
                obtain ⟨kq, x11_50, rfl, HA, HJ50, HO_278002, HO_284002, HO_290002, BK277, BK283, BK289, HB⟩ := hcut
                cases kq with
                | zero => exact absurd HA.out (by simp [laws_FnSmooth.j3])
                | succ kj50 =>
                  have H := HA.out
                  clear HA
                  simp only [laws_FnSmooth.j3] at H
                  have HC53 := Aside0.mk H
                  clear H
                  go_upto_region 17 with (fail)
                  repeat (go_quiet (fail); go_upto_region 17 with (fail))
                  go_cut [79] (fun v79 wc => ∃ (kq : Nat) (x79_52 : Bool), v79 = .bool x79_52 ∧ Aside0 (laws_FnSmooth.j4 kq t276 (wrap64 ((rd t280 x42_2) - (rd t273 x42_2))) x11_50 (t280.length : Int) x42_2 x79_52 t271 t272 t273 t278 t279 t280 = some r) ∧ Aside0 (kq ≤ kj50) ∧ Aside0 (Kd.R (Kd.int .i64) 3 wc w.heap.size (fun k_ => some k_ ≠ ((.slice (some ad291) t280.length co15) : Value).ownBlock ∧ some k_ ≠ ((.slice Ao22 t286.length co22) : Value).ownBlock) (.slice (some ad292) t273.length co10) t273) ∧ Aside0 (Kd.R (Kd.int .i64) 3 wc w.heap.size (fun k_ => some k_ ≠ ((.slice (some ad292) t273.length co10) : Value).ownBlock ∧ some k_ ≠ ((.slice Ao22 t286.length co22) : Value).ownBlock) (.slice (some ad291) t280.length co15) t280) ∧ Aside0 (Kd.R (Kd.int .i64) 3 wc w.heap.size (fun k_ => some k_ ≠ ((.slice (some ad292) t273.length co10) : Value).ownBlock ∧ some k_ ≠ ((.slice (some ad291) t280.length co15) : Value).ownBlock) (.slice Ao22 t286.length co22) t286) ∧ Aside0 (wc.heap[gb277]? = some (.cells #[.int .i64 t271, .int .i64 t272, (.slice (some ad292) t273.length co10)] 66 (0, 0))) ∧ Aside0 (wc.heap[gb283]? = some (.cells #[.int .i64 t278, .int .i64 t279, (.slice (some ad291) t280.length co15)] 66 (0, 0))) ∧ Aside0 (wc.heap[gb289]? = some (.cells #[.int .i64 t284, .int .i64 t285, (.slice Ao22 t286.length co22)] 66 (0, 0))) ∧ Aside0 (Below w.heap.size w wc))
                  case first =>
                    have H := HC53.out
                    clear HC53
                    by_cases c54 : (Int.tmod (wrap64 (Int.tdiv x42_2 t271)) 4) = 0
                    · rw [if_pos c54] at H
                      have c54b0 : ((Int.tmod (wrap64 (Int.tdiv x42_2 t271)) 4) == 0) = true := beq_iff_eq.mpr c54
                      have c54b1 : ((Int.tmod (wrap64 (Int.tdiv x42_2 t271)) 4) != 0) = false := bne_eq_false_iff_eq.mpr c54
                      clear c54
                      (first | rw [c54b0] | (simp only [i64_w, i32_w]; rw [c54b0]) | skip)
                      have H' := Aside0.mk H
                      clear H
                      go_wp2
                      repeat (go_quiet (fail); try go_wp2)
                      go_meet
                      case rel => exact ⟨_, (true), (by first | rfl | (simp; done) | (simp [*]; done)), H', ⟨by have := HJ5.out; have := HK2.out; have := HJ43.out; have := HJ50.out; first | omega | exact Nat.le_refl _⟩, ⟨by (with_reducible repeat (first | apply Kd.R_alloc | apply Kd.R_drewN | apply Kd.R_drew)); exact HO_278002.out⟩, ⟨by (with_reducible repeat (first | apply Kd.R_alloc | apply Kd.R_drewN | apply Kd.R_drew)); exact HO_284002.out⟩, ⟨by (with_reducible repeat (first | apply Kd.R_alloc | apply Kd.R_drewN | apply Kd.R_drew)); exact HO_290002.out⟩, ⟨by (with_reducible repeat (first | refine blk_drewN ?_ _ | refine blk_drew ?_ | refine blk_alloc ?_ _)); exact BK277.out⟩, ⟨by (with_reducible repeat (first | refine blk_drewN ?_ _ | refine blk_drew ?_ | refine blk_alloc ?_ _)); exact BK283.out⟩, ⟨by (with_reducible repeat (first | refine blk_drewN ?_ _ | refine blk_drew ?_ | refine blk_alloc ?_ _)); exact BK289.out⟩, ⟨by repeat (first | (with_reducible first | exact HB.out | apply below_alloc | apply pw_below_drewN | apply below_drew1 | refine below_set ?_ GE277.out | refine below_set ?_ GE283.out | refine below_set ?_ GE289.out) | exact HB.out)⟩⟩
                    rw [if_neg c54] at H
                    have c54b0 : ((Int.tmod (wrap64 (Int.tdiv x42_2 t271)) 4) == 0) = false := beq_eq_false_iff_ne.mpr c54
                    have c54b1 : ((Int.tmod (wrap64 (Int.tdiv x42_2 t271)) 4) != 0) = true := bne_iff_ne.mpr c54
                    (first | rw [c54b0] | (simp only [i64_w, i32_w]; rw [c54b0]) | skip)
                    have H' := Aside0.mk H
                    clear H
                    go_wp2
                    repeat (go_quiet (fail); try go_wp2)
                    go_meet
                    case rel => exact ⟨_, (((Int.tmod (wrap64 (Int.tdiv x42_2 t271)) 4) == 3)), (by first | rfl | (simp; done) | (simp [*]; done)), H', ⟨by have := HJ5.out; have := HK2.out; have := HJ43.out; have := HJ50.out; first | omega | exact Nat.le_refl _⟩, ⟨by (with_reducible repeat (first | apply Kd.R_alloc | apply Kd.R_drewN | apply Kd.R_drew)); exact HO_278002.out⟩, ⟨by (with_reducible repeat (first | apply Kd.R_alloc | apply Kd.R_drewN | apply Kd.R_drew)); exact HO_284002.out⟩, ⟨by (with_reducible repeat (first | apply Kd.R_alloc | apply Kd.R_drewN | apply Kd.R_drew)); exact HO_290002.out⟩, ⟨by (with_reducible repeat (first | refine blk_drewN ?_ _ | refine blk_drew ?_ | refine blk_alloc ?_ _)); exact BK277.out⟩, ⟨by (with_reducible repeat (first | refine blk_drewN ?_ _ | refine blk_drew ?_ | refine blk_alloc ?_ _)); exact BK283.out⟩, ⟨by (with_reducible repeat (first | refine blk_drewN ?_ _ | refine blk_drew ?_ | refine blk_alloc ?_ _)); exact BK289.out⟩, ⟨by repeat (first | (with_reducible first | exact HB.out | apply below_alloc | apply pw_below_drewN | apply below_drew1 | refine below_set ?_ GE277.out | refine below_set ?_ GE283.out | refine below_set ?_ GE289.out) | exact HB.out)⟩⟩
                  case rest =>
                    clear HC53
                    try clear c1
                    try clear c2
                    try clear c2b0
                    try clear c2b1
                    try clear c2b2
                    try clear p2
                    try clear q2
                    try clear hx2
                    try clear c3
                    try clear c4
                    try clear c5
                    try clear p6
                    try clear c8
                    try clear c13
                    try clear c19
                    try clear c20
                    try clear c23
                    try clear c23b0
                    try clear c23b1
                    try clear c25
                    try clear c26
                    try clear c28
                    try clear p29
                    try clear q29
                    try clear hx29
                    try clear c30
                    try clear c31
                    try clear c33
                    try clear c35
                    try clear c36
                    try clear c37
                    try clear c39
                    try clear c39b0
                    try clear c40
                    try clear c40b0
                    try clear c41
                    try clear c41b0
                    try clear c42
                    try clear c42b0
                    try clear c43
                    try clear c43b0
                    try clear c43b1
                    try clear c45
                    try clear c46
                    try clear c48
                    try clear c50
                    try clear c50b0
                    try clear c50b1
                    try clear c52
                    try clear c54
                    try clear c54b0
                    try clear c54b1
                    try clear hcz14_0
                    try clear hcz14_1
                    try clear hcz14_2
                    try clear hcz16_0
                    try clear hcz16_1
                    try clear hcz16_2
                    try clear hcz21_0
                    try clear hcz21_1
                    try clear hcz21_2
                    try clear hcz27_0
                    try clear hcz27_1
                    try clear hcz27_2
                    try clear hcz29_0
                    try clear hcz29_1
                    try clear hcz29_2
                    try clear hcz32_0
                    try clear hcz32_1
                    try clear hcz32_2
                    try clear hcz34_0
                    try clear hcz34_1
                    try clear hcz34_2
                    try clear hcz38_0
                    try clear hcz38_1
                    try clear hcz38_2
                    try clear hcz47_0
                    try clear hcz47_1
                    try clear hcz47_2
                    try clear hcz49_0
                    try clear hcz49_1
                    try clear hcz49_2
                    try clear hcz9_0
                    try clear hcz9_1
                    try clear hcz9_2
                    try clear hfz14_0
                    try clear hfz14_1
                    try clear hfz14_2
                    try clear hfz16_0
                    try clear hfz16_1
                    try clear hfz16_2
                    try clear hfz21_0
                    try clear hfz21_1
                    try clear hfz21_2
                    try clear hfz27_0
                    try clear hfz27_1
                    try clear hfz27_2
                    try clear hfz29_0
                    try clear hfz29_1
                    try clear hfz29_2
                    try clear hfz32_0
                    try clear hfz32_1
                    try clear hfz32_2
                    try clear hfz34_0
                    try clear hfz34_1
                    try clear hfz34_2
                    try clear hfz38_0
                    try clear hfz38_1
                    try clear hfz38_2
                    try clear hfz47_0
                    try clear hfz47_1
                    try clear hfz47_2
                    try clear hfz49_0
                    try clear hfz49_1
                    try clear hfz49_2
                    try clear hfz9_0
                    try clear hfz9_1
                    try clear hfz9_2
                    try clear hx291_0
                    try clear hx292_0
                    try clear p2
                    try clear p29
                    try clear p291
                    try clear p292
                    try clear p6
                    try clear q2
                    try clear q29
                    try clear q291
                    try clear q292
                    obtain ⟨kq, x79_52, rfl, HA, HJ52, HO_278002, HO_284002, HO_290002, BK277, BK283, BK289, HB⟩ := hcut
                    cases kq with
                    | zero => exact absurd HA.out (by simp [laws_FnSmooth.j4])
                    | succ kj52 =>
                      have H := HA.out
                      clear HA
                      simp only [laws_FnSmooth.j4] at H
                      have HC55 := Aside0.mk H
                      clear H
                      go_upto_if 79 with (fail)
                      repeat (go_quiet (fail); go_upto_if 79 with (fail))
                      go_cut [11] (fun v11 wc => ∃ (kq : Nat) (x11_54 : Int), v11 = .int .i64 x11_54 ∧ Aside0 (laws_FnSmooth.j5 kq t276 (wrap64 ((rd t280 x42_2) - (rd t273 x42_2))) x11_54 (t280.length : Int) x42_2 t271 t272 t273 t278 t279 t280 = some r) ∧ Aside0 (kq ≤ kj52) ∧ Aside0 (Kd.R (Kd.int .i64) 3 wc w.heap.size (fun k_ => some k_ ≠ ((.slice (some ad291) t280.length co15) : Value).ownBlock ∧ some k_ ≠ ((.slice Ao22 t286.length co22) : Value).ownBlock) (.slice (some ad292) t273.length co10) t273) ∧ Aside0 (Kd.R (Kd.int .i64) 3 wc w.heap.size (fun k_ => some k_ ≠ ((.slice (some ad292) t273.length co10) : Value).ownBlock ∧ some k_ ≠ ((.slice Ao22 t286.length co22) : Value).ownBlock) (.slice (some ad291) t280.length co15) t280) ∧ Aside0 (Kd.R (Kd.int .i64) 3 wc w.heap.size (fun k_ => some k_ ≠ ((.slice (some ad292) t273.length co10) : Value).ownBlock ∧ some k_ ≠ ((.slice (some ad291) t280.length co15) : Value).ownBlock) (.slice Ao22 t286.length co22) t286) ∧ Aside0 (wc.heap[gb277]? = some (.cells #[.int .i64 t271, .int .i64 t272, (.slice (some ad292) t273.length co10)] 66 (0, 0))) ∧ Aside0 (wc.heap[gb283]? = some (.cells #[.int .i64 t278, .int .i64 t279, (.slice (some ad291) t280.length co15)] 66 (0, 0))) ∧ Aside0 (wc.heap[gb289]? = some (.cells #[.int .i64 t284, .int .i64 t285, (.slice Ao22 t286.length co22)] 66 (0, 0))) ∧ Aside0 (Below w.heap.size w wc))
                      case first =>
                        have H := HC55.out
                        clear HC55
                        by_cases c56 : x79_52 = true
                        · subst c56
                          have H1 : (laws_FnSmooth.j5 kj52 t276 (wrap64 ((rd t280 x42_2) - (rd t273 x42_2))) (wrap64 (x11_50 + 1)) (t280.length : Int) x42_2 t271 t272 t273 t278 t279 t280) = some r := by rw [if_pos rfl] at H; exact H
                          clear H
                          have H := H1
                          clear H1
                          have H' := Aside0.mk H
                          clear H
                          go_wp2
                          repeat (go_quiet (fail); try go_wp2)
                          go_meet
                          case rel => exact ⟨_, (wrap64 (x11_50 + 1)), (by first | rfl | (simp; done) | (simp [*]; done)), H', ⟨by have := HJ5.out; have := HK2.out; have := HJ43.out; have := HJ50.out; have := HJ52.out; first | omega | exact Nat.le_refl _⟩, ⟨by (with_reducible repeat (first | apply Kd.R_alloc | apply Kd.R_drewN | apply Kd.R_drew)); exact HO_278002.out⟩, ⟨by (with_reducible repeat (first | apply Kd.R_alloc | apply Kd.R_drewN | apply Kd.R_drew)); exact HO_284002.out⟩, ⟨by (with_reducible repeat (first | apply Kd.R_alloc | apply Kd.R_drewN | apply Kd.R_drew)); exact HO_290002.out⟩, ⟨by (with_reducible repeat (first | refine blk_drewN ?_ _ | refine blk_drew ?_ | refine blk_alloc ?_ _)); exact BK277.out⟩, ⟨by (with_reducible repeat (first | refine blk_drewN ?_ _ | refine blk_drew ?_ | refine blk_alloc ?_ _)); exact BK283.out⟩, ⟨by (with_reducible repeat (first | refine blk_drewN ?_ _ | refine blk_drew ?_ | refine blk_alloc ?_ _)); exact BK289.out⟩, ⟨by repeat (first | (with_reducible first | exact HB.out | apply below_alloc | apply pw_below_drewN | apply below_drew1 | refine below_set ?_ GE277.out | refine below_set ?_ GE283.out | refine below_set ?_ GE289.out) | exact HB.out)⟩⟩
                        replace c56 := Bool.eq_false_iff.mpr c56
                        subst c56
                        have H1 : (laws_FnSmooth.j5 kj52 t276 (wrap64 ((rd t280 x42_2) - (rd t273 x42_2))) x11_50 (t280.length : Int) x42_2 t271 t272 t273 t278 t279 t280) = some r := by rw [if_neg (show ¬ (false = true) by decide)] at H; exact H
                        clear H
                        have H := H1
                        clear H1
                        have H' := Aside0.mk H
                        clear H
                        go_wp2
                        repeat (go_quiet (fail); try go_wp2)
                        go_meet
                        case rel => exact ⟨_, (x11_50), (by first | rfl | (simp; done) | (simp [*]; done)), H', ⟨by have := HJ5.out; have := HK2.out; have := HJ43.out; have := HJ50.out; have := HJ52.out; first | omega | exact Nat.le_refl _⟩, ⟨by (with_reducible repeat (first | apply Kd.R_alloc | apply Kd.R_drewN | apply Kd.R_drew)); exact HO_278002.out⟩, ⟨by (with_reducible repeat (first | apply Kd.R_alloc | apply Kd.R_drewN | apply Kd.R_drew)); exact HO_284002.out⟩, ⟨by (with_reducible repeat (first | apply Kd.R_alloc | apply Kd.R_drewN | apply Kd.R_drew)); exact HO_290002.out⟩, ⟨by (with_reducible repeat (first | refine blk_drewN ?_ _ | refine blk_drew ?_ | refine blk_alloc ?_ _)); exact BK277.out⟩, ⟨by (with_reducible repeat (first | refine blk_drewN ?_ _ | refine blk_drew ?_ | refine blk_alloc ?_ _)); exact BK283.out⟩, ⟨by (with_reducible repeat (first | refine blk_drewN ?_ _ | refine blk_drew ?_ | refine blk_alloc ?_ _)); exact BK289.out⟩, ⟨by repeat (first | (with_reducible first | exact HB.out | apply below_alloc | apply pw_below_drewN | apply below_drew1 | refine below_set ?_ GE277.out | refine below_set ?_ GE283.out | refine below_set ?_ GE289.out) | exact HB.out)⟩⟩
                      case rest =>
                        clear HC55
                        try clear c1
                        try clear c2
                        try clear c2b0
                        try clear c2b1
                        try clear c2b2
                        try clear p2
                        try clear q2
                        try clear hx2
                        try clear c3
                        try clear c4
                        try clear c5
                        try clear p6
                        try clear c8
                        try clear c13
                        try clear c19
                        try clear c20
                        try clear c23
                        try clear c23b0
                        try clear c23b1
                        try clear c25
                        try clear c26
                        try clear c28
                        try clear p29
                        try clear q29
                        try clear hx29
                        try clear c30
                        try clear c31
                        try clear c33
                        try clear c35
                        try clear c36
                        try clear c37
                        try clear c39
                        try clear c39b0
                        try clear c40
                        try clear c40b0
                        try clear c41
                        try clear c41b0
                        try clear c42
                        try clear c42b0
                        try clear c43
                        try clear c43b0
                        try clear c43b1
                        try clear c45
                        try clear c46
                        try clear c48
                        try clear c50
                        try clear c50b0
                        try clear c50b1
                        try clear c52
                        try clear c54
                        try clear c54b0
                        try clear c54b1
                        try clear c56
                        try clear hcz14_0
                        try clear hcz14_1
                        try clear hcz14_2
                        try clear hcz16_0
                        try clear hcz16_1
                        try clear hcz16_2
                        try clear hcz21_0
                        try clear hcz21_1
                        try clear hcz21_2
                        try clear hcz27_0
                        try clear hcz27_1
                        try clear hcz27_2
                        try clear hcz29_0
                        try clear hcz29_1
                        try clear hcz29_2
                        try clear hcz32_0
                        try clear hcz32_1
                        try clear hcz32_2
                        try clear hcz34_0
                        try clear hcz34_1
                        try clear hcz34_2
                        try clear hcz38_0
                        try clear hcz38_1
                        try clear hcz38_2
                        try clear hcz47_0
                        try clear hcz47_1
                        try clear hcz47_2
                        try clear hcz49_0
                        try clear hcz49_1
                        try clear hcz49_2
                        try clear hcz9_0
                        try clear hcz9_1
                        try clear hcz9_2
                        try clear hfz14_0
                        try clear hfz14_1
                        try clear hfz14_2
                        try clear hfz16_0
                        try clear hfz16_1
                        try clear hfz16_2
                        try clear hfz21_0
                        try clear hfz21_1
                        try clear hfz21_2
                        try clear hfz27_0
                        try clear hfz27_1
                        try clear hfz27_2
                        try clear hfz29_0
                        try clear hfz29_1
                        try clear hfz29_2
                        try clear hfz32_0
                        try clear hfz32_1
                        try clear hfz32_2
                        try clear hfz34_0
                        try clear hfz34_1
                        try clear hfz34_2
                        try clear hfz38_0
                        try clear hfz38_1
                        try clear hfz38_2
                        try clear hfz47_0
                        try clear hfz47_1
                        try clear hfz47_2
                        try clear hfz49_0
                        try clear hfz49_1
                        try clear hfz49_2
                        try clear hfz9_0
                        try clear hfz9_1
                        try clear hfz9_2
                        try clear hx291_0
                        try clear hx292_0
                        try clear p2
                        try clear p29
                        try clear p291
                        try clear p292
                        try clear p6
                        try clear q2
                        try clear q29
                        try clear q291
                        try clear q292
                        obtain ⟨kq, x11_54, rfl, HA, HJ54, HO_278002, HO_284002, HO_290002, BK277, BK283, BK289, HB⟩ := hcut
                        cases kq with
                        | zero => exact absurd HA.out (by simp [laws_FnSmooth.j5])
                        | succ kj54 =>
                          have H := HA.out
                          clear HA
                          simp only [laws_FnSmooth.j5] at H
                          by_cases c57 : (wrap64 ((rd t280 x42_2) - (rd t273 x42_2))) < 0
                          rw [if_pos c57] at H
                          have c57b0 : decide ((wrap64 ((rd t280 x42_2) - (rd t273 x42_2))) < 0) = true := decide_eq_true c57
                          clear c57
                          by_cases c58 : (wrap64 (-(wrap64 ((rd t280 x42_2) - (rd t273 x42_2))))) > (wrap64 (x11_54 * (wrap64 ((wrap64 (Int.tdiv t276 4)) + 1))))
                          · rw [if_pos c58] at H
                            have c58b0 : decide ((wrap64 (x11_54 * (wrap64 ((wrap64 (Int.tdiv t276 4)) + 1)))) < (wrap64 (-(wrap64 ((rd t280 x42_2) - (rd t273 x42_2)))))) = true := decide_eq_true c58
                            clear c58
                            obtain rfl := Option.some.inj H
                            go_wp2
                            repeat (go_quiet (fail); try go_wp2)
                            go_ret
                            exact ⟨by first | rfl | (simp [errW_none, errW_some] <;> rfl) | (simp [*, errW_none, errW_some] <;> rfl), by repeat (first | (with_reducible first | exact HB.out | apply below_alloc | apply pw_below_drewN | apply below_drew1 | refine below_set ?_ GE277.out | refine below_set ?_ GE283.out | refine below_set ?_ GE289.out) | exact HB.out)⟩
                          rw [if_neg c58] at H
                          have c58b0 : decide ((wrap64 (x11_54 * (wrap64 ((wrap64 (Int.tdiv t276 4)) + 1)))) < (wrap64 (-(wrap64 ((rd t280 x42_2) - (rd t273 x42_2)))))) = false := decide_eq_false c58
                          clear c58
                          by_cases c59 : (wrap64 (-(wrap64 ((rd t280 x42_2) - (rd t273 x42_2))))) > 0
                          rw [if_pos c59] at H
                          have c59b0 : decide (0 < (wrap64 (-(wrap64 ((rd t280 x42_2) - (rd t273 x42_2)))))) = true := decide_eq_true c59
                          clear c59
                          by_cases c60 : t276 < 8
                          · rw [if_pos c60] at H
                            have c60b0 : decide (t276 < 8) = true := decide_eq_true c60
                            clear c60
                            obtain rfl := Option.some.inj H
                            go_wp2
                            repeat (go_quiet (fail); try go_wp2)
                            go_ret
                            exact ⟨by first | rfl | (simp [errW_none, errW_some] <;> rfl) | (simp [*, errW_none, errW_some] <;> rfl), by repeat (first | (with_reducible first | exact HB.out | apply below_alloc | apply pw_below_drewN | apply below_drew1 | refine below_set ?_ GE277.out | refine below_set ?_ GE283.out | refine below_set ?_ GE289.out) | exact HB.out)⟩
                          rw [if_neg c60] at H
                          have c60b0 : decide (t276 < 8) = false := decide_eq_false c60
                          clear c60
                          have H' := Aside0.mk H
                          clear H
                          rotate_left
                          rw [if_neg c59] at H
                          have c59b0 : decide (0 < (wrap64 (-(wrap64 ((rd t280 x42_2) - (rd t273 x42_2)))))) = false := decide_eq_false c59
                          clear c59
                          have H' := Aside0.mk H
                          clear H
                          rotate_left
                          rw [if_neg c57] at H
                          have c57b0 : decide ((wrap64 ((rd t280 x42_2) - (rd t273 x42_2))) < 0) = false := decide_eq_false c57
                          clear c57
                          by_cases c61 : (wrap64 ((rd t280 x42_2) - (rd t273 x42_2))) > (wrap64 (x11_54 * (wrap64 ((wrap64 (Int.tdiv t276 4)) + 1))))
                          · rw [if_pos c61] at H
                            have c61b0 : decide ((wrap64 (x11_54 * (wrap64 ((wrap64 (Int.tdiv t276 4)) + 1)))) < (wrap64 ((rd t280 x42_2) - (rd t273 x42_2)))) = true := decide_eq_true c61
                            clear c61
                            obtain rfl := Option.some.inj H
                            go_wp2
                            repeat (go_quiet (fail); try go_wp2)
                            go_ret
                            exact ⟨by first | rfl | (simp [errW_none, errW_some] <;> rfl) | (simp [*, errW_none, errW_some] <;> rfl), by repeat (first | (with_reducible first | exact HB.out | apply below_alloc | apply pw_below_drewN | apply below_drew1 | refine below_set ?_ GE277.out | refine below_set ?_ GE283.out | refine below_set ?_ GE289.out) | exact HB.out)⟩
                          rw [if_neg c61] at H
                          have c61b0 : decide ((wrap64 (x11_54 * (wrap64 ((wrap64 (Int.tdiv t276 4)) + 1)))) < (wrap64 ((rd t280 x42_2) - (rd t273 x42_2)))) = false := decide_eq_false c61
                          clear c61
                          by_cases c62 : (wrap64 ((rd t280 x42_2) - (rd t273 x42_2))) > 0
                          rw [if_pos c62] at H
                          have c62b0 : decide (0 < (wrap64 ((rd t280 x42_2) - (rd t273 x42_2)))) = true := decide_eq_true c62
                          clear c62
                          by_cases c63 : t276 < 8
                          · rw [if_pos c63] at H
                            have c63b0 : decide (t276 < 8) = true := decide_eq_true c63
                            clear c63
                            obtain rfl := Option.some.inj H
                            go_wp2
                            repeat (go_quiet (fail); try go_wp2)
                            go_ret
                            exact ⟨by first | rfl | (simp [errW_none, errW_some] <;> rfl) | (simp [*, errW_none, errW_some] <;> rfl), by repeat (first | (with_reducible first | exact HB.out | apply below_alloc | apply pw_below_drewN | apply below_drew1 | refine below_set ?_ GE277.out | refine below_set ?_ GE283.out | refine below_set ?_ GE289.out) | exact HB.out)⟩
                          rw [if_neg c63] at H
                          have c63b0 : decide (t276 < 8) = false := decide_eq_false c63
                          clear c63
                          have H' := Aside0.mk H
                          clear H
                          rotate_left
                          rw [if_neg c62] at H
                          have c62b0 : decide (0 < (wrap64 ((rd t280 x42_2) - (rd t273 x42_2)))) = false := decide_eq_false c62
                          clear c62
                          have H' := Aside0.mk H
                          clear H
                          all_goals
                            go_wp2
                            repeat (go_quiet (fail); try go_wp2)
                            go_roundg kj54
                            case measure => have := HJ5.out; have := HK2.out; have := HJ43.out; have := HJ50.out; have := HJ52.out; have := HJ54.out; omega
                            case rel => exact ⟨(wrap64 (x42_2 + 1)), (by first | rfl | (simp; done) | (simp [*]; done)), H', ⟨by have := HJ5.out; have := HK2.out; have := HJ43.out; have := HJ50.out; have := HJ52.out; have := HJ54.out; omega⟩, ⟨by (with_reducible repeat (first | apply Kd.R_alloc | apply Kd.R_drewN | apply Kd.R_drew)); exact HO_278002.out⟩, ⟨by (with_reducible repeat (first | apply Kd.R_alloc | apply Kd.R_drewN | apply Kd.R_drew)); exact HO_284002.out⟩, ⟨by (with_reducible repeat (first | apply Kd.R_alloc | apply Kd.R_drewN | apply Kd.R_drew)); exact HO_290002.out⟩, ⟨by (with_reducible repeat (first | refine blk_drewN ?_ _ | refine blk_drew ?_ | refine blk_alloc ?_ _)); exact BK277.out⟩, ⟨by (with_reducible repeat (first | refine blk_drewN ?_ _ | refine blk_drew ?_ | refine blk_alloc ?_ _)); exact BK283.out⟩, ⟨by (with_reducible repeat (first | refine blk_drewN ?_ _ | refine blk_drew ?_ | refine blk_alloc ?_ _)); exact BK289.out⟩, ⟨by repeat (first | (with_reducible first | exact HB.out | apply below_alloc | apply pw_below_drewN | apply below_drew1 | refine below_set ?_ GE277.out | refine below_set ?_ GE283.out | refine below_set ?_ GE289.out) | exact HB.out)⟩⟩

/-- THE ONE PURE STATEMENT of laws_FnSmooth: yours. -/
def laws_FnSmooth.Pure : Prop := ∀ (l0 : List Int), l0.length ≤ maxLen → l0.length * 1 ≤ 140737488351232 → (∀ x ∈ l0, (Lit.int .u8 x).wf = true) → ∃ k, laws_FnSmooth.f k l0 = some true
theorem laws_FnSmooth.walk (P : laws_FnSmooth.Pure) (a0 : Option Addr) (len0 cap0 : Nat) (z0 : List Int) (w : World) (w0 : (a0 = none ∧ len0 = 0 ∧ cap0 = 0 ∧ z0 = []) ∨ ∃ x, a0 = some x ∧ len0 ≤ cap0 ∧ cap0 ≤ maxLen ∧ z0.length = cap0 ∧ (∀ i, i < z0.length → w.cell? (x.add i) = some (.int .u8 (z0.getD i 0))) ∧ ∀ n ∈ z0, (Lit.int .u8 n).wf = true) (y0 : len0 * 1 ≤ 140737488351232) :
    Calls Try.prog 8 #[.slice a0 len0 cap0] w fun e w' => e = .returned (.bool true) ∧ Below w.heap.size w w' := by
  obtain ⟨l0, rfl, hr0, hm0, hw0, hc0⟩ := ReadsInt.ofRowC w0
  obtain ⟨k, h⟩ := P l0 hm0 y0 hw0
  refine (laws_FnSmooth.calls k _ _ l0 true w (Kd.C_of_reads (d := (0 : Int)) (h1 := fun _ => rfl) hr0) hc0 h).mono ?_
  rintro e w' ⟨rfl, hd⟩
  exact ⟨rfl, hd⟩

end Go.Proofs.Ytggokppfhkebkaa.PFnSmooth

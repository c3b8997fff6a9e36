-- written by myprint.py (a program of this session's over the kit's print)
import Derived.Test.YtglaedjadlappaaPFnBetweenx0
import Derived.Test.YtglaedjadlappaaPFnBetweenx3
namespace Go.Proofs.Ytglaedjadlappaa.PFnBetween
open Go.RowKit Go.Proofs.YtglaedjadlappaaW.PrintWords Go.Proofs.YtglaedjadlappaaW.PrintLast Go.Proofs.YtglaedjadlappaaW.PrintMore
attribute [local go_sem] max2_int min2_int max_two min_two max_three min_three max_four min_four   -- for this text's walks alone
set_option linter.unusedVariables false
set_option linter.unusedSimpArgs false

/-! ### spec_Between: function 32 -/
mutual
def spec_Between.j0 : Nat → Int → Int → List Int → List Int → Bool → Option (Int × Int × Int × Int × Int × Int × Int × List Int)
  | 0, _, _, _, _, _ => none
  | k + 1, x0, x1, x2, x3, x49 => if x49 = true then (some (0, 0, 0, 0, 0, 0, 0, ([] : List Int))) else (spec_Between.l0 k x0 x2 x3 x0 x1 (-1) (-1) (x2.length : Int) 0)
def spec_Between.l0 : Nat → Int → List Int → List Int → Int → Int → Int → Int → Int → Int → Option (Int × Int × Int × Int × Int × Int × Int × List Int)
  | 0, _, _, _, _, _, _, _, _, _ => none
  | k + 1, x0, x2, x3, x9, x10, x11, x12, x54, x55 => if x55 < x54 then (if 0 ≤ x55 then (if x55 < (x2.length : Int) then (if x55 < (x3.length : Int) then (if (rd x2 x55) = (rd x3 x55) then (spec_Between.l0 k x0 x2 x3 x9 x10 x11 x12 x54 (wrap64 (x55 + 1))) else (if x0 = 0 then (none) else (if (Int.tmod x55 x0) < x9 then (spec_Between.j2 k x0 x2 x3 (Int.tmod x55 x0) x10 x11 x12 (Int.tmod x55 x0) (wrap64 (Int.tdiv x55 x0)) x54 x55) else (spec_Between.j2 k x0 x2 x3 x9 x10 x11 x12 (Int.tmod x55 x0) (wrap64 (Int.tdiv x55 x0)) x54 x55)))) else (none)) else (none)) else (none)) else (if x11 < 0 then (spec_Between.j4 k x0 x3 0 0 0 0) else (spec_Between.j4 k x0 x3 x9 x10 x11 x12))
def spec_Between.j2 : Nat → Int → List Int → List Int → Int → Int → Int → Int → Int → Int → Int → Int → Option (Int × Int × Int × Int × Int × Int × Int × List Int)
  | 0, _, _, _, _, _, _, _, _, _, _, _ => none
  | k + 1, x0, x2, x3, x9, x10, x11, x12, x14, x15, x54, x55 => if x14 > x11 then (spec_Between.j3 k x0 x2 x3 x9 x10 x14 x12 x15 x54 x55) else (spec_Between.j3 k x0 x2 x3 x9 x10 x11 x12 x15 x54 x55)
def spec_Between.j3 : Nat → Int → List Int → List Int → Int → Int → Int → Int → Int → Int → Int → Option (Int × Int × Int × Int × Int × Int × Int × List Int)
  | 0, _, _, _, _, _, _, _, _, _, _ => none
  | k + 1, x0, x2, x3, x9, x10, x11, x12, x15, x54, x55 => if x15 < x10 then (if x15 > x12 then (spec_Between.l0 k x0 x2 x3 x9 x15 x11 x15 x54 (wrap64 (x55 + 1))) else (spec_Between.l0 k x0 x2 x3 x9 x15 x11 x12 x54 (wrap64 (x55 + 1)))) else (if x15 > x12 then (spec_Between.l0 k x0 x2 x3 x9 x10 x11 x15 x54 (wrap64 (x55 + 1))) else (spec_Between.l0 k x0 x2 x3 x9 x10 x11 x12 x54 (wrap64 (x55 + 1))))
def spec_Between.j4 : Nat → Int → List Int → Int → Int → Int → Int → Option (Int × Int × Int × Int × Int × Int × Int × List Int)
  | 0, _, _, _, _, _, _ => none
  | k + 1, x0, x3, x9, x10, x11, x12 => if 256 ≤ 281474976710656 then (spec_Between.l1 k x0 x3 x9 x11 x12 (List.replicate 256 false) false x10 x9 x10 (wrap64 ((wrap64 (x11 - x9)) + 1)) (wrap64 ((wrap64 (x12 - x10)) + 1)) 0 0 (-1) ([] : List Int)) else (none)
def spec_Between.l1 : Nat → Int → List Int → Int → Int → Int → List Bool → Bool → Int → Int → Int → Int → Int → Int → Int → Int → List Int → Option (Int × Int × Int × Int × Int × Int × Int × List Int)
  | 0, _, _, _, _, _, _, _, _, _, _, _, _, _, _, _, _ => none
  | k + 1, x0, x3, x9, x11, x12, x17, x18, x19, x177000, x177001, x177002, x177003, x177004, x177005, x177006, x177007 => if x19 ≤ x12 then (spec_Between.l2 k x0 x3 x9 x11 x12 x17 x18 x19 x9 x177000 x177001 x177002 x177003 x177004 x177005 x177006 x177007) else (if x18 = true then (spec_Between.l3 k x17 255 x177000 x177001 x177002 x177003 x177004 x177005 x177006 x177007) else (some (x177000, x177001, x177002, x177003, x177004, x177005, x177006, x177007)))
def spec_Between.l2 : Nat → Int → List Int → Int → Int → Int → List Bool → Bool → Int → Int → Int → Int → Int → Int → Int → Int → Int → List Int → Option (Int × Int × Int × Int × Int × Int × Int × List Int)
  | 0, _, _, _, _, _, _, _, _, _, _, _, _, _, _, _, _, _ => none
  | k + 1, x0, x3, x9, x11, x12, x17, x18, x19, x20, x177000, x177001, x177002, x177003, x177004, x177005, x177006, x177007 => if x20 ≤ x11 then (if 0 ≤ (wrap64 ((wrap64 (x19 * x0)) + x20)) then (if (wrap64 ((wrap64 (x19 * x0)) + x20)) < (x3.length : Int) then (if (rd x3 (wrap64 ((wrap64 (x19 * x0)) + x20))) < 0 then (if x177007.length < 17592186044416 then (spec_Between.l2 k x0 x3 x9 x11 x12 x17 true x19 (wrap64 (x20 + 1)) x177000 x177001 x177002 x177003 x177004 x177005 x177006 (x177007 ++ [rd x3 (wrap64 ((wrap64 (x19 * x0)) + x20))])) else (none)) else (if 0 ≤ (rd x3 (wrap64 ((wrap64 (x19 * x0)) + x20))) then (if (rd x3 (wrap64 ((wrap64 (x19 * x0)) + x20))) < (x17.length : Int) then (if x177007.length < 17592186044416 then (spec_Between.l2 k x0 x3 x9 x11 x12 (x17.set ((rd x3 (wrap64 ((wrap64 (x19 * x0)) + x20))) : Int).toNat true) x18 x19 (wrap64 (x20 + 1)) x177000 x177001 x177002 x177003 x177004 x177005 x177006 (x177007 ++ [rd x3 (wrap64 ((wrap64 (x19 * x0)) + x20))])) else (none)) else (none)) else (none))) else (none)) else (none)) else (spec_Between.l1 k x0 x3 x9 x11 x12 x17 x18 (wrap64 (x19 + 1)) x177000 x177001 x177002 x177003 x177004 x177005 x177006 x177007)
def spec_Between.l3 : Nat → List Bool → Int → Int → Int → Int → Int → Int → Int → Int → List Int → Option (Int × Int × Int × Int × Int × Int × Int × List Int)
  | 0, _, _, _, _, _, _, _, _, _, _ => none
  | k + 1, x17, x22, x177000, x177001, x177002, x177003, x177004, x177005, x177006, x177007 => if x22 ≥ 0 then (if 0 ≤ x22 then (if x22 < (x17.length : Int) then (if rdOf false x17 x22 = true then (spec_Between.l3 k x17 (wrap64 (x22 - 1)) x177000 x177001 x177002 x177003 x177004 x177005 x177006 x177007) else (spec_Between.l3 k x17 (wrap64 (x22 - 1)) x177000 x177001 x177002 x177003 x177004 x177005 x22 x177007)) else (none)) else (none)) else (spec_Between.l4 k (x177007.length : Int) 0 x177000 x177001 x177002 x177003 x177004 x177005 x177006 x177007)
def spec_Between.l4 : Nat → Int → Int → Int → Int → Int → Int → Int → Int → Int → List Int → Option (Int × Int × Int × Int × Int × Int × Int × List Int)
  | 0, _, _, _, _, _, _, _, _, _, _ => none
  | k + 1, x149, x150, x177000, x177001, x177002, x177003, x177004, x177005, x177006, x177007 => if x150 < x149 then (if 0 ≤ x150 then (if x150 < (x177007.length : Int) then (if (rd x177007 x150) < 0 then (spec_Between.l4 k x149 (wrap64 (x150 + 1)) x177000 x177001 x177002 x177003 x177004 x177005 x177006 (x177007.set (x150 : Int).toNat x177006)) else (spec_Between.l4 k x149 (wrap64 (x150 + 1)) x177000 x177001 x177002 x177003 x177004 x177005 x177006 x177007)) else (none)) else (none)) else (some (x177000, x177001, x177002, x177003, x177004, x177005, x177006, x177007))
end
def spec_Between.f (k : Nat) (a0 : Int) (a1 : Int) (l2 : List Int) (l3 : List Int) : Option (Int × Int × Int × Int × Int × Int × Int × List Int) := (spec_l4Sides.f a0 a1).bind fun t171 => (if t171 = true then (if (wrap64 (a0 * a1)) > 4096 then (spec_Between.j0 k a0 a1 l2 l3 true) else ((spec_l6Screen.f k (wrap64 (a0 * a1)) l2).bind fun t172 => (if t172 = true then ((spec_l6Screen.f k (wrap64 (a0 * a1)) l3).bind fun t173 => (spec_Between.j0 k a0 a1 l2 l3 (!t173))) else (spec_Between.j0 k a0 a1 l2 l3 true)))) else (spec_Between.j0 k a0 a1 l2 l3 true))
theorem spec_Between.mono_l : ∀ k, (∀ y0 y1 y2 y3 y4, LeO (spec_Between.j0 k y0 y1 y2 y3 y4) (spec_Between.j0 (k + 1) y0 y1 y2 y3 y4)) ∧ (∀ y0 y1 y2 y3 y4 y5 y6 y7 y8, LeO (spec_Between.l0 k y0 y1 y2 y3 y4 y5 y6 y7 y8) (spec_Between.l0 (k + 1) y0 y1 y2 y3 y4 y5 y6 y7 y8)) ∧ (∀ y0 y1 y2 y3 y4 y5 y6 y7 y8 y9 y10, LeO (spec_Between.j2 k y0 y1 y2 y3 y4 y5 y6 y7 y8 y9 y10) (spec_Between.j2 (k + 1) y0 y1 y2 y3 y4 y5 y6 y7 y8 y9 y10)) ∧ (∀ y0 y1 y2 y3 y4 y5 y6 y7 y8 y9, LeO (spec_Between.j3 k y0 y1 y2 y3 y4 y5 y6 y7 y8 y9) (spec_Between.j3 (k + 1) y0 y1 y2 y3 y4 y5 y6 y7 y8 y9)) ∧ (∀ y0 y1 y2 y3 y4 y5, LeO (spec_Between.j4 k y0 y1 y2 y3 y4 y5) (spec_Between.j4 (k + 1) y0 y1 y2 y3 y4 y5)) ∧ (∀ y0 y1 y2 y3 y4 y5 y6 y7 y8 y9 y10 y11 y12 y13 y14 y15, LeO (spec_Between.l1 k y0 y1 y2 y3 y4 y5 y6 y7 y8 y9 y10 y11 y12 y13 y14 y15) (spec_Between.l1 (k + 1) y0 y1 y2 y3 y4 y5 y6 y7 y8 y9 y10 y11 y12 y13 y14 y15)) ∧ (∀ y0 y1 y2 y3 y4 y5 y6 y7 y8 y9 y10 y11 y12 y13 y14 y15 y16, LeO (spec_Between.l2 k y0 y1 y2 y3 y4 y5 y6 y7 y8 y9 y10 y11 y12 y13 y14 y15 y16) (spec_Between.l2 (k + 1) y0 y1 y2 y3 y4 y5 y6 y7 y8 y9 y10 y11 y12 y13 y14 y15 y16)) ∧ (∀ y0 y1 y2 y3 y4 y5 y6 y7 y8 y9, LeO (spec_Between.l3 k y0 y1 y2 y3 y4 y5 y6 y7 y8 y9) (spec_Between.l3 (k + 1) y0 y1 y2 y3 y4 y5 y6 y7 y8 y9)) ∧ (∀ y0 y1 y2 y3 y4 y5 y6 y7 y8 y9, LeO (spec_Between.l4 k y0 y1 y2 y3 y4 y5 y6 y7 y8 y9) (spec_Between.l4 (k + 1) y0 y1 y2 y3 y4 y5 y6 y7 y8 y9))
  | 0 => ⟨fun _ _ _ _ _ r h => by simp [spec_Between.j0] at h, fun _ _ _ _ _ _ _ _ _ r h => by simp [spec_Between.l0] at h, fun _ _ _ _ _ _ _ _ _ _ _ r h => by simp [spec_Between.j2] at h, fun _ _ _ _ _ _ _ _ _ _ r h => by simp [spec_Between.j3] at h, fun _ _ _ _ _ _ r h => by simp [spec_Between.j4] at h, fun _ _ _ _ _ _ _ _ _ _ _ _ _ _ _ _ r h => by simp [spec_Between.l1] at h, fun _ _ _ _ _ _ _ _ _ _ _ _ _ _ _ _ _ r h => by simp [spec_Between.l2] at h, fun _ _ _ _ _ _ _ _ _ _ r h => by simp [spec_Between.l3] at h, fun _ _ _ _ _ _ _ _ _ _ r h => by simp [spec_Between.l4] at h⟩
  | k + 1 => by
    obtain ⟨ih0, ih1, ih2, ih3, ih4, ih5, ih6, ih7, ih8⟩ := spec_Between.mono_l k
    refine ⟨?_, ?_, ?_, ?_, ?_, ?_, ?_, ?_, ?_⟩
    · intro y0 y1 y2 y3 y4
      unfold spec_Between.j0
      repeat' first
      | (with_reducible exact ih0 _ _ _ _ _)
      | (with_reducible exact ih1 _ _ _ _ _ _ _ _ _)
      | (with_reducible exact ih2 _ _ _ _ _ _ _ _ _ _ _)
      | (with_reducible exact ih3 _ _ _ _ _ _ _ _ _ _)
      | (with_reducible exact ih4 _ _ _ _ _ _)
      | (with_reducible exact ih5 _ _ _ _ _ _ _ _ _ _ _ _ _ _ _ _)
      | (with_reducible exact ih6 _ _ _ _ _ _ _ _ _ _ _ _ _ _ _ _ _)
      | (with_reducible exact ih7 _ _ _ _ _ _ _ _ _ _)
      | (with_reducible exact ih8 _ _ _ _ _ _ _ _ _ _)
      | (with_reducible exact spec_l6Screen.mono _ _ _)
      | (with_reducible exact LeO.refl _)
      | (with_reducible exact LeO.none _)
      | (with_reducible refine LeO.ite ?_ ?_)
      | (with_reducible refine LeO.bind ?_ (fun _ => ?_))
      | exact ih0 _ _ _ _ _
      | exact ih1 _ _ _ _ _ _ _ _ _
      | exact ih2 _ _ _ _ _ _ _ _ _ _ _
      | exact ih3 _ _ _ _ _ _ _ _ _ _
      | exact ih4 _ _ _ _ _ _
      | exact ih5 _ _ _ _ _ _ _ _ _ _ _ _ _ _ _ _
      | exact ih6 _ _ _ _ _ _ _ _ _ _ _ _ _ _ _ _ _
      | exact ih7 _ _ _ _ _ _ _ _ _ _
      | exact ih8 _ _ _ _ _ _ _ _ _ _
      | exact spec_l6Screen.mono _ _ _
      | exact LeO.none _
      | refine LeO.ite ?_ ?_
      | refine LeO.bind ?_ (fun _ => ?_)
    · intro y0 y1 y2 y3 y4 y5 y6 y7 y8
      unfold spec_Between.l0
      repeat' first
      | (with_reducible exact ih0 _ _ _ _ _)
      | (with_reducible exact ih1 _ _ _ _ _ _ _ _ _)
      | (with_reducible exact ih2 _ _ _ _ _ _ _ _ _ _ _)
      | (with_reducible exact ih3 _ _ _ _ _ _ _ _ _ _)
      | (with_reducible exact ih4 _ _ _ _ _ _)
      | (with_reducible exact ih5 _ _ _ _ _ _ _ _ _ _ _ _ _ _ _ _)
      | (with_reducible exact ih6 _ _ _ _ _ _ _ _ _ _ _ _ _ _ _ _ _)
      | (with_reducible exact ih7 _ _ _ _ _ _ _ _ _ _)
      | (with_reducible exact ih8 _ _ _ _ _ _ _ _ _ _)
      | (with_reducible exact spec_l6Screen.mono _ _ _)
      | (with_reducible exact LeO.refl _)
      | (with_reducible exact LeO.none _)
      | (with_reducible refine LeO.ite ?_ ?_)
      | (with_reducible refine LeO.bind ?_ (fun _ => ?_))
      | exact ih0 _ _ _ _ _
      | exact ih1 _ _ _ _ _ _ _ _ _
      | exact ih2 _ _ _ _ _ _ _ _ _ _ _
      | exact ih3 _ _ _ _ _ _ _ _ _ _
      | exact ih4 _ _ _ _ _ _
      | exact ih5 _ _ _ _ _ _ _ _ _ _ _ _ _ _ _ _
      | exact ih6 _ _ _ _ _ _ _ _ _ _ _ _ _ _ _ _ _
      | exact ih7 _ _ _ _ _ _ _ _ _ _
      | exact ih8 _ _ _ _ _ _ _ _ _ _
      | exact spec_l6Screen.mono _ _ _
      | exact LeO.none _
      | refine LeO.ite ?_ ?_
      | refine LeO.bind ?_ (fun _ => ?_)
    · intro y0 y1 y2 y3 y4 y5 y6 y7 y8 y9 y10
      unfold spec_Between.j2
      repeat' first
      | (with_reducible exact ih0 _ _ _ _ _)
      | (with_reducible exact ih1 _ _ _ _ _ _ _ _ _)
      | (with_reducible exact ih2 _ _ _ _ _ _ _ _ _ _ _)
      | (with_reducible exact ih3 _ _ _ _ _ _ _ _ _ _)
      | (with_reducible exact ih4 _ _ _ _ _ _)
      | (with_reducible exact ih5 _ _ _ _ _ _ _ _ _ _ _ _ _ _ _ _)
      | (with_reducible exact ih6 _ _ _ _ _ _ _ _ _ _ _ _ _ _ _ _ _)
      | (with_reducible exact ih7 _ _ _ _ _ _ _ _ _ _)
      | (with_reducible exact ih8 _ _ _ _ _ _ _ _ _ _)
      | (with_reducible exact spec_l6Screen.mono _ _ _)
      | (with_reducible exact LeO.refl _)
      | (with_reducible exact LeO.none _)
      | (with_reducible refine LeO.ite ?_ ?_)
      | (with_reducible refine LeO.bind ?_ (fun _ => ?_))
      | exact ih0 _ _ _ _ _
      | exact ih1 _ _ _ _ _ _ _ _ _
      | exact ih2 _ _ _ _ _ _ _ _ _ _ _
      | exact ih3 _ _ _ _ _ _ _ _ _ _
      | exact ih4 _ _ _ _ _ _
      | exact ih5 _ _ _ _ _ _ _ _ _ _ _ _ _ _ _ _
      | exact ih6 _ _ _ _ _ _ _ _ _ _ _ _ _ _ _ _ _
      | exact ih7 _ _ _ _ _ _ _ _ _ _
      | exact ih8 _ _ _ _ _ _ _ _ _ _
      | exact spec_l6Screen.mono _ _ _
      | exact LeO.none _
      | refine LeO.ite ?_ ?_
      | refine LeO.bind ?_ (fun _ => ?_)
    · intro y0 y1 y2 y3 y4 y5 y6 y7 y8 y9
      unfold spec_Between.j3
      repeat' first
      | (with_reducible exact ih0 _ _ _ _ _)
      | (with_reducible exact ih1 _ _ _ _ _ _ _ _ _)
      | (with_reducible exact ih2 _ _ _ _ _ _ _ _ _ _ _)
      | (with_reducible exact ih3 _ _ _ _ _ _ _ _ _ _)
      | (with_reducible exact ih4 _ _ _ _ _ _)
      | (with_reducible exact ih5 _ _ _ _ _ _ _ _ _ _ _ _ _ _ _ _)
      | (with_reducible exact ih6 _ _ _ _ _ _ _ _ _ _ _ _ _ _ _ _ _)
      | (with_reducible exact ih7 _ _ _ _ _ _ _ _ _ _)
      | (with_reducible exact ih8 _ _ _ _ _ _ _ _ _ _)
      | (with_reducible exact spec_l6Screen.mono _ _ _)
      | (with_reducible exact LeO.refl _)
      | (with_reducible exact LeO.none _)
      | (with_reducible refine LeO.ite ?_ ?_)
      | (with_reducible refine LeO.bind ?_ (fun _ => ?_))
      | exact ih0 _ _ _ _ _
      | exact ih1 _ _ _ _ _ _ _ _ _
      | exact ih2 _ _ _ _ _ _ _ _ _ _ _
      | exact ih3 _ _ _ _ _ _ _ _ _ _
      | exact ih4 _ _ _ _ _ _
      | exact ih5 _ _ _ _ _ _ _ _ _ _ _ _ _ _ _ _
      | exact ih6 _ _ _ _ _ _ _ _ _ _ _ _ _ _ _ _ _
      | exact ih7 _ _ _ _ _ _ _ _ _ _
      | exact ih8 _ _ _ _ _ _ _ _ _ _
      | exact spec_l6Screen.mono _ _ _
      | exact LeO.none _
      | refine LeO.ite ?_ ?_
      | refine LeO.bind ?_ (fun _ => ?_)
    · intro y0 y1 y2 y3 y4 y5
      unfold spec_Between.j4
      repeat' first
      | (with_reducible exact ih0 _ _ _ _ _)
      | (with_reducible exact ih1 _ _ _ _ _ _ _ _ _)
      | (with_reducible exact ih2 _ _ _ _ _ _ _ _ _ _ _)
      | (with_reducible exact ih3 _ _ _ _ _ _ _ _ _ _)
      | (with_reducible exact ih4 _ _ _ _ _ _)
      | (with_reducible exact ih5 _ _ _ _ _ _ _ _ _ _ _ _ _ _ _ _)
      | (with_reducible exact ih6 _ _ _ _ _ _ _ _ _ _ _ _ _ _ _ _ _)
      | (with_reducible exact ih7 _ _ _ _ _ _ _ _ _ _)
      | (with_reducible exact ih8 _ _ _ _ _ _ _ _ _ _)
      | (with_reducible exact spec_l6Screen.mono _ _ _)
      | (with_reducible exact LeO.refl _)
      | (with_reducible exact LeO.none _)
      | (with_reducible refine LeO.ite ?_ ?_)
      | (with_reducible refine LeO.bind ?_ (fun _ => ?_))
      | exact ih0 _ _ _ _ _
      | exact ih1 _ _ _ _ _ _ _ _ _
      | exact ih2 _ _ _ _ _ _ _ _ _ _ _
      | exact ih3 _ _ _ _ _ _ _ _ _ _
      | exact ih4 _ _ _ _ _ _
      | exact ih5 _ _ _ _ _ _ _ _ _ _ _ _ _ _ _ _
      | exact ih6 _ _ _ _ _ _ _ _ _ _ _ _ _ _ _ _ _
      | exact ih7 _ _ _ _ _ _ _ _ _ _
      | exact ih8 _ _ _ _ _ _ _ _ _ _
      | exact spec_l6Screen.mono _ _ _
      | exact LeO.none _
      | refine LeO.ite ?_ ?_
      | refine LeO.bind ?_ (fun _ => ?_)
    · intro y0 y1 y2 y3 y4 y5 y6 y7 y8 y9 y10 y11 y12 y13 y14 y15
      unfold spec_Between.l1
      repeat' first
      | (with_reducible exact ih0 _ _ _ _ _)
      | (with_reducible exact ih1 _ _ _ _ _ _ _ _ _)
      | (with_reducible exact ih2 _ _ _ _ _ _ _ _ _ _ _)
      | (with_reducible exact ih3 _ _ _ _ _ _ _ _ _ _)
      | (with_reducible exact ih4 _ _ _ _ _ _)
      | (with_reducible exact ih5 _ _ _ _ _ _ _ _ _ _ _ _ _ _ _ _)
      | (with_reducible exact ih6 _ _ _ _ _ _ _ _ _ _ _ _ _ _ _ _ _)
      | (with_reducible exact ih7 _ _ _ _ _ _ _ _ _ _)
      | (with_reducible exact ih8 _ _ _ _ _ _ _ _ _ _)
      | (with_reducible exact spec_l6Screen.mono _ _ _)
      | (with_reducible exact LeO.refl _)
      | (with_reducible exact LeO.none _)
      | (with_reducible refine LeO.ite ?_ ?_)
      | (with_reducible refine LeO.bind ?_ (fun _ => ?_))
      | exact ih0 _ _ _ _ _
      | exact ih1 _ _ _ _ _ _ _ _ _
      | exact ih2 _ _ _ _ _ _ _ _ _ _ _
      | exact ih3 _ _ _ _ _ _ _ _ _ _
      | exact ih4 _ _ _ _ _ _
      | exact ih5 _ _ _ _ _ _ _ _ _ _ _ _ _ _ _ _
      | exact ih6 _ _ _ _ _ _ _ _ _ _ _ _ _ _ _ _ _
      | exact ih7 _ _ _ _ _ _ _ _ _ _
      | exact ih8 _ _ _ _ _ _ _ _ _ _
      | exact spec_l6Screen.mono _ _ _
      | exact LeO.none _
      | refine LeO.ite ?_ ?_
      | refine LeO.bind ?_ (fun _ => ?_)
    · intro y0 y1 y2 y3 y4 y5 y6 y7 y8 y9 y10 y11 y12 y13 y14 y15 y16
      unfold spec_Between.l2
      repeat' first
      | (with_reducible exact ih0 _ _ _ _ _)
      | (with_reducible exact ih1 _ _ _ _ _ _ _ _ _)
      | (with_reducible exact ih2 _ _ _ _ _ _ _ _ _ _ _)
      | (with_reducible exact ih3 _ _ _ _ _ _ _ _ _ _)
      | (with_reducible exact ih4 _ _ _ _ _ _)
      | (with_reducible exact ih5 _ _ _ _ _ _ _ _ _ _ _ _ _ _ _ _)
      | (with_reducible exact ih6 _ _ _ _ _ _ _ _ _ _ _ _ _ _ _ _ _)
      | (with_reducible exact ih7 _ _ _ _ _ _ _ _ _ _)
      | (with_reducible exact ih8 _ _ _ _ _ _ _ _ _ _)
      | (with_reducible exact spec_l6Screen.mono _ _ _)
      | (with_reducible exact LeO.refl _)
      | (with_reducible exact LeO.none _)
      | (with_reducible refine LeO.ite ?_ ?_)
      | (with_reducible refine LeO.bind ?_ (fun _ => ?_))
      | exact ih0 _ _ _ _ _
      | exact ih1 _ _ _ _ _ _ _ _ _
      | exact ih2 _ _ _ _ _ _ _ _ _ _ _
      | exact ih3 _ _ _ _ _ _ _ _ _ _
      | exact ih4 _ _ _ _ _ _
      | exact ih5 _ _ _ _ _ _ _ _ _ _ _ _ _ _ _ _
      | exact ih6 _ _ _ _ _ _ _ _ _ _ _ _ _ _ _ _ _
      | exact ih7 _ _ _ _ _ _ _ _ _ _
      | exact ih8 _ _ _ _ _ _ _ _ _ _
      | exact spec_l6Screen.mono _ _ _
      | exact LeO.none _
      | refine LeO.ite ?_ ?_
      | refine LeO.bind ?_ (fun _ => ?_)
    · intro y0 y1 y2 y3 y4 y5 y6 y7 y8 y9
      unfold spec_Between.l3
      repeat' first
      | (with_reducible exact ih0 _ _ _ _ _)
      | (with_reducible exact ih1 _ _ _ _ _ _ _ _ _)
      | (with_reducible exact ih2 _ _ _ _ _ _ _ _ _ _ _)
      | (with_reducible exact ih3 _ _ _ _ _ _ _ _ _ _)
      | (with_reducible exact ih4 _ _ _ _ _ _)
      | (with_reducible exact ih5 _ _ _ _ _ _ _ _ _ _ _ _ _ _ _ _)
      | (with_reducible exact ih6 _ _ _ _ _ _ _ _ _ _ _ _ _ _ _ _ _)
      | (with_reducible exact ih7 _ _ _ _ _ _ _ _ _ _)
      | (with_reducible exact ih8 _ _ _ _ _ _ _ _ _ _)
      | (with_reducible exact spec_l6Screen.mono _ _ _)
      | (with_reducible exact LeO.refl _)
      | (with_reducible exact LeO.none _)
      | (with_reducible refine LeO.ite ?_ ?_)
      | (with_reducible refine LeO.bind ?_ (fun _ => ?_))
      | exact ih0 _ _ _ _ _
      | exact ih1 _ _ _ _ _ _ _ _ _
      | exact ih2 _ _ _ _ _ _ _ _ _ _ _
      | exact ih3 _ _ _ _ _ _ _ _ _ _
      | exact ih4 _ _ _ _ _ _
      | exact ih5 _ _ _ _ _ _ _ _ _ _ _ _ _ _ _ _
      | exact ih6 _ _ _ _ _ _ _ _ _ _ _ _ _ _ _ _ _
      | exact ih7 _ _ _ _ _ _ _ _ _ _
      | exact ih8 _ _ _ _ _ _ _ _ _ _
      | exact spec_l6Screen.mono _ _ _
      | exact LeO.none _
      | refine LeO.ite ?_ ?_
      | refine LeO.bind ?_ (fun _ => ?_)
    · intro y0 y1 y2 y3 y4 y5 y6 y7 y8 y9
      unfold spec_Between.l4
      repeat' first
      | (with_reducible exact ih0 _ _ _ _ _)
      | (with_reducible exact ih1 _ _ _ _ _ _ _ _ _)
      | (with_reducible exact ih2 _ _ _ _ _ _ _ _ _ _ _)
      | (with_reducible exact ih3 _ _ _ _ _ _ _ _ _ _)
      | (with_reducible exact ih4 _ _ _ _ _ _)
      | (with_reducible exact ih5 _ _ _ _ _ _ _ _ _ _ _ _ _ _ _ _)
      | (with_reducible exact ih6 _ _ _ _ _ _ _ _ _ _ _ _ _ _ _ _ _)
      | (with_reducible exact ih7 _ _ _ _ _ _ _ _ _ _)
      | (with_reducible exact ih8 _ _ _ _ _ _ _ _ _ _)
      | (with_reducible exact spec_l6Screen.mono _ _ _)
      | (with_reducible exact LeO.refl _)
      | (with_reducible exact LeO.none _)
      | (with_reducible refine LeO.ite ?_ ?_)
      | (with_reducible refine LeO.bind ?_ (fun _ => ?_))
      | exact ih0 _ _ _ _ _
      | exact ih1 _ _ _ _ _ _ _ _ _
      | exact ih2 _ _ _ _ _ _ _ _ _ _ _
      | exact ih3 _ _ _ _ _ _ _ _ _ _
      | exact ih4 _ _ _ _ _ _
      | exact ih5 _ _ _ _ _ _ _ _ _ _ _ _ _ _ _ _
      | exact ih6 _ _ _ _ _ _ _ _ _ _ _ _ _ _ _ _ _
      | exact ih7 _ _ _ _ _ _ _ _ _ _
      | exact ih8 _ _ _ _ _ _ _ _ _ _
      | exact spec_l6Screen.mono _ _ _
      | exact LeO.none _
      | refine LeO.ite ?_ ?_
      | refine LeO.bind ?_ (fun _ => ?_)
theorem spec_Between.mono : ∀ a0 a1 a2 a3 k, LeO (spec_Between.f k a0 a1 a2 a3) (spec_Between.f (k + 1) a0 a1 a2 a3) := by
  intro a0 a1 a2 a3 k
  obtain ⟨ih0, ih1, ih2, ih3, ih4, ih5, ih6, ih7, ih8⟩ := spec_Between.mono_l k
  unfold spec_Between.f
  repeat' first
      | (with_reducible exact ih0 _ _ _ _ _)
      | (with_reducible exact ih1 _ _ _ _ _ _ _ _ _)
      | (with_reducible exact ih2 _ _ _ _ _ _ _ _ _ _ _)
      | (with_reducible exact ih3 _ _ _ _ _ _ _ _ _ _)
      | (with_reducible exact ih4 _ _ _ _ _ _)
      | (with_reducible exact ih5 _ _ _ _ _ _ _ _ _ _ _ _ _ _ _ _)
      | (with_reducible exact ih6 _ _ _ _ _ _ _ _ _ _ _ _ _ _ _ _ _)
      | (with_reducible exact ih7 _ _ _ _ _ _ _ _ _ _)
      | (with_reducible exact ih8 _ _ _ _ _ _ _ _ _ _)
      | (with_reducible exact spec_l6Screen.mono _ _ _)
      | (with_reducible exact LeO.refl _)
      | (with_reducible exact LeO.none _)
      | (with_reducible refine LeO.ite ?_ ?_)
      | (with_reducible refine LeO.bind ?_ (fun _ => ?_))
      | exact ih0 _ _ _ _ _
      | exact ih1 _ _ _ _ _ _ _ _ _
      | exact ih2 _ _ _ _ _ _ _ _ _ _ _
      | exact ih3 _ _ _ _ _ _ _ _ _ _
      | exact ih4 _ _ _ _ _ _
      | exact ih5 _ _ _ _ _ _ _ _ _ _ _ _ _ _ _ _
      | exact ih6 _ _ _ _ _ _ _ _ _ _ _ _ _ _ _ _ _
      | exact ih7 _ _ _ _ _ _ _ _ _ _
      | exact ih8 _ _ _ _ _ _ _ _ _ _
      | exact spec_l6Screen.mono _ _ _
      | exact LeO.none _
      | refine LeO.ite ?_ ?_
      | refine LeO.bind ?_ (fun _ => ?_)
set_option maxHeartbeats 8000000 in
set_option maxRecDepth 100000 in
theorem spec_Between.calls (k : Nat) (a0 : Int) (a1 : Int) (A2 : Option Addr) (c2 : Nat) (l2 : List Int) (A3 : Option Addr) (c3 : Nat) (l3 : List Int) (r1 : Int) (r2 : Int) (r3 : Int) (r4 : Int) (r5 : Int) (r6 : Int) (r7 : Int) (r8 : List Int) (w : World) (hr2 : Kd.C (Kd.int .i64) w A2 l2.length l2) (hc2 : l2.length ≤ c2) (hr3 : Kd.C (Kd.int .i64) w A3 l3.length l3) (hc3 : l3.length ≤ c3) (h : spec_Between.f k a0 a1 l2 l3 = some (r1, r2, r3, r4, r5, r6, r7, r8)) :
    Calls Try.prog 32 #[.int .i64 a0, .int .i64 a1, .slice A2 l2.length c2, .slice A3 l3.length c3] w fun e w' => ∃ v7_ : Value, e = .returned (.agg #[.int .i64 r1, .int .i64 r2, .int .i64 r3, .int .i64 r4, .int .i64 r5, .int .i64 r6, .int .i64 r7, v7_]) ∧ Kd.R (Kd.int .i64) 3 w' w.heap.size (fun _ => True) v7_ r8 ∧ Below w.heap.size w w' := by
  have hu50 := Try.underlying50
  have HR2 := Aside0.mk hr2
  have HC2 := Aside0.mk hc2
  clear hr2 hc2
  have HR3 := Aside0.mk hr3
  have HC3 := Aside0.mk hc3
  clear hr3 hc3
  have HB := Aside0.mk (Below.refl w.heap.size w)
  have H : ((spec_l4Sides.f a0 a1).bind fun t171 => (if t171 = true then (if (wrap64 (a0 * a1)) > 4096 then (spec_Between.j0 k a0 a1 l2 l3 true) else ((spec_l6Screen.f k (wrap64 (a0 * a1)) l2).bind fun t172 => (if t172 = true then ((spec_l6Screen.f k (wrap64 (a0 * a1)) l3).bind fun t173 => (spec_Between.j0 k a0 a1 l2 l3 (!t173))) else (spec_Between.j0 k a0 a1 l2 l3 true)))) else (spec_Between.j0 k a0 a1 l2 l3 true))) = some (r1, r2, r3, r4, r5, r6, r7, r8) := h
  clear h
  have HC5 := Aside0.mk H
  clear H
  go_enter Try.func32, Try.ntmps32
  go_upto_region 1 with (first | ((with_reducible refine gate_dst (N := 8) rfl ?_); refine box_event ?hg (N := 8) ?hd (cs := #[.int .i64 0, .int .i64 0, .int .i64 0, .int .i64 0, .int .i64 0, .int .i64 0, .int .i64 0, .slice none 0 0]) (t := 50) ?hr ?_; (case hd => rfl); (case hg => rfl); (case hr => first | (go_simp; done) | (go_simp; rfl)); intro gb170 hg w6 hbox hb; have n0_ := Aside0.mk (below_step (by repeat (first | (with_reducible first | exact HB.out | apply below_alloc | apply pw_below_drewN | apply below_drew1) | exact HB.out)) hb); have n1_ := Aside0.mk (hbox); have n2_ := Aside0.mk ((by rw [hg]; exact (below_size (by repeat (first | (with_reducible first | exact HB.out | apply below_alloc | apply pw_below_drewN | apply below_drew1) | exact HB.out))) : w.heap.size ≤ gb170)); have n3_ := n2_; clear HB; have HB := n0_; have BK170 := n1_; have GW170 := n2_; have GE170 := n3_; clear n0_ n1_ n2_ n3_; clear hb hbox hg))
  repeat (go_quiet (first | ((with_reducible refine gate_dst (N := 8) rfl ?_); refine box_event ?hg (N := 8) ?hd (cs := #[.int .i64 0, .int .i64 0, .int .i64 0, .int .i64 0, .int .i64 0, .int .i64 0, .int .i64 0, .slice none 0 0]) (t := 50) ?hr ?_; (case hd => rfl); (case hg => rfl); (case hr => first | (go_simp; done) | (go_simp; rfl)); intro gb170 hg w6 hbox hb; have n0_ := Aside0.mk (below_step (by repeat (first | (with_reducible first | exact HB.out | apply below_alloc | apply pw_below_drewN | apply below_drew1) | exact HB.out)) hb); have n1_ := Aside0.mk (hbox); have n2_ := Aside0.mk ((by rw [hg]; exact (below_size (by repeat (first | (with_reducible first | exact HB.out | apply below_alloc | apply pw_below_drewN | apply below_drew1) | exact HB.out))) : w.heap.size ≤ gb170)); have n3_ := n2_; clear HB; have HB := n0_; have BK170 := n1_; have GW170 := n2_; have GE170 := n3_; clear n0_ n1_ n2_ n3_; clear hb hbox hg)); go_upto_region 1 with (first | ((with_reducible refine gate_dst (N := 8) rfl ?_); refine box_event ?hg (N := 8) ?hd (cs := #[.int .i64 0, .int .i64 0, .int .i64 0, .int .i64 0, .int .i64 0, .int .i64 0, .int .i64 0, .slice none 0 0]) (t := 50) ?hr ?_; (case hd => rfl); (case hg => rfl); (case hr => first | (go_simp; done) | (go_simp; rfl)); intro gb170 hg w6 hbox hb; have n0_ := Aside0.mk (below_step (by repeat (first | (with_reducible first | exact HB.out | apply below_alloc | apply pw_below_drewN | apply below_drew1) | exact HB.out)) hb); have n1_ := Aside0.mk (hbox); have n2_ := Aside0.mk ((by rw [hg]; exact (below_size (by repeat (first | (with_reducible first | exact HB.out | apply below_alloc | apply pw_below_drewN | apply below_drew1) | exact HB.out))) : w.heap.size ≤ gb170)); have n3_ := n2_; clear HB; have HB := n0_; have BK170 := n1_; have GW170 := n2_; have GE170 := n3_; clear n0_ n1_ n2_ n3_; clear hb hbox hg)))
  (try simp only [Act.put, List.setIfInBounds_toArray, List.set_cons_zero, List.set_cons_succ])
  go_cut [49] (fun v49 wc => ∃ (kq : Nat) (x49_4 : Bool), v49 = .bool x49_4 ∧ Aside0 (spec_Between.j0 kq a0 a1 l2 l3 x49_4 = some (r1, r2, r3, r4, r5, r6, r7, r8)) ∧ Aside0 (kq ≤ k) ∧ Aside0 (wc.heap[gb170]? = some (.cells #[.int .i64 0, .int .i64 0, .int .i64 0, .int .i64 0, .int .i64 0, .int .i64 0, .int .i64 0, (.slice none 0 0)] 50 (0, 0))) ∧ Aside0 (Below w.heap.size w wc))
  case first =>
    have H := HC5.out
    clear HC5
    replace H := Option.bind_eq_some_iff.mp H
    obtain ⟨t171, A70, H⟩ := H
    replace H : (if t171 = true then (if (wrap64 (a0 * a1)) > 4096 then (spec_Between.j0 k a0 a1 l2 l3 true) else ((spec_l6Screen.f k (wrap64 (a0 * a1)) l2).bind fun t172 => (if t172 = true then ((spec_l6Screen.f k (wrap64 (a0 * a1)) l3).bind fun t173 => (spec_Between.j0 k a0 a1 l2 l3 (!t173))) else (spec_Between.j0 k a0 a1 l2 l3 true)))) else (spec_Between.j0 k a0 a1 l2 l3 true)) = some (r1, r2, r3, r4, r5, r6, r7, r8) := H
    have A7 := Aside0.mk A70
    clear A70
    by_cases c8 : t171 = true
    rotate_left
    · replace c8 := Bool.eq_false_iff.mpr c8
      subst c8
      have H1 : (spec_Between.j0 k a0 a1 l2 l3 true) = some (r1, r2, r3, r4, r5, r6, r7, r8) := by rw [if_neg (show ¬ (false = true) by decide)] at H; exact H
      clear H
      have H := H1
      clear H1
      have H' := Aside0.mk H
      clear H
      iterate 3 (try go_wp2_with (first | (go_at_call 98; (with_reducible refine (spec_l4Sides.calls a0 a1 false _ A7.out).mono ?_); rintro e w' ⟨rfl, ⟨nd, rfl⟩⟩; (try first | exact ⟨rfl, _, World.drewN_drewN _ _ _⟩ | exact ⟨rfl, _, Eq.trans (World.drewN_drewN _ _ _) (congrArg (World.drewN _) (Nat.add_assoc _ _ _))⟩))); try go_quiet (first | (go_at_call 98; (with_reducible refine (spec_l4Sides.calls a0 a1 false _ A7.out).mono ?_); rintro e w' ⟨rfl, ⟨nd, rfl⟩⟩; (try first | exact ⟨rfl, _, World.drewN_drewN _ _ _⟩ | exact ⟨rfl, _, Eq.trans (World.drewN_drewN _ _ _) (congrArg (World.drewN _) (Nat.add_assoc _ _ _))⟩))))
      go_meet
      case rel => exact ⟨_, (true), (by first | rfl | (simp; done) | (simp [*]; done)), H', ⟨by first | omega | exact Nat.le_refl _⟩, ⟨by (with_reducible repeat (first | refine blk_drewN ?_ _ | refine blk_drew ?_ | refine blk_alloc ?_ _)); exact BK170.out⟩, ⟨by repeat (first | (with_reducible first | exact HB.out | apply below_alloc | apply pw_below_drewN | apply below_drew1 | refine below_set ?_ GE170.out) | exact HB.out)⟩⟩
    subst c8
    have H1 : (if (wrap64 (a0 * a1)) > 4096 then (spec_Between.j0 k a0 a1 l2 l3 true) else ((spec_l6Screen.f k (wrap64 (a0 * a1)) l2).bind fun t172 => (if t172 = true then ((spec_l6Screen.f k (wrap64 (a0 * a1)) l3).bind fun t173 => (spec_Between.j0 k a0 a1 l2 l3 (!t173))) else (spec_Between.j0 k a0 a1 l2 l3 true)))) = some (r1, r2, r3, r4, r5, r6, r7, r8) := by rw [if_pos rfl] at H; exact H
    clear H
    have H := H1
    clear H1
    by_cases c9 : (wrap64 (a0 * a1)) > 4096
    · rw [if_pos c9] at H
      have c9b0 : decide (4096 < (wrap64 (a0 * a1))) = true := decide_eq_true c9
      clear c9
      (first | rw [c9b0] | (simp only [i64_w, i32_w]; rw [c9b0]) | skip)
      have H' := Aside0.mk H
      clear H
      iterate 3 (try go_wp2_with (first | (go_at_call 98; (with_reducible refine (spec_l4Sides.calls a0 a1 true _ A7.out).mono ?_); rintro e w' ⟨rfl, ⟨nd, rfl⟩⟩; (try first | exact ⟨rfl, _, World.drewN_drewN _ _ _⟩ | exact ⟨rfl, _, Eq.trans (World.drewN_drewN _ _ _) (congrArg (World.drewN _) (Nat.add_assoc _ _ _))⟩))); try go_quiet (first | (go_at_call 98; (with_reducible refine (spec_l4Sides.calls a0 a1 true _ A7.out).mono ?_); rintro e w' ⟨rfl, ⟨nd, rfl⟩⟩; (try first | exact ⟨rfl, _, World.drewN_drewN _ _ _⟩ | exact ⟨rfl, _, Eq.trans (World.drewN_drewN _ _ _) (congrArg (World.drewN _) (Nat.add_assoc _ _ _))⟩))))
      go_meet
      case rel => exact ⟨_, (true), (by first | rfl | (simp; done) | (simp [*]; done)), H', ⟨by first | omega | exact Nat.le_refl _⟩, ⟨by (with_reducible repeat (first | refine blk_drewN ?_ _ | refine blk_drew ?_ | refine blk_alloc ?_ _)); exact BK170.out⟩, ⟨by repeat (first | (with_reducible first | exact HB.out | apply below_alloc | apply pw_below_drewN | apply below_drew1 | refine below_set ?_ GE170.out) | exact HB.out)⟩⟩
    rw [if_neg c9] at H
    have c9b0 : decide (4096 < (wrap64 (a0 * a1))) = false := decide_eq_false c9
    clear c9
    (first | rw [c9b0] | (simp only [i64_w, i32_w]; rw [c9b0]) | skip)
    replace H := Option.bind_eq_some_iff.mp H
    obtain ⟨t172, A100, H⟩ := H
    replace H : (if t172 = true then ((spec_l6Screen.f k (wrap64 (a0 * a1)) l3).bind fun t173 => (spec_Between.j0 k a0 a1 l2 l3 (!t173))) else (spec_Between.j0 k a0 a1 l2 l3 true)) = some (r1, r2, r3, r4, r5, r6, r7, r8) := H
    have A10 := Aside0.mk A100
    clear A100
    by_cases c11 : t172 = true
    rotate_left
    · replace c11 := Bool.eq_false_iff.mpr c11
      subst c11
      have H1 : (spec_Between.j0 k a0 a1 l2 l3 true) = some (r1, r2, r3, r4, r5, r6, r7, r8) := by rw [if_neg (show ¬ (false = true) by decide)] at H; exact H
      clear H
      have H := H1
      clear H1
      have H' := Aside0.mk H
      clear H
      iterate 3 (try go_wp2_with (first | (go_at_call 98; (with_reducible refine (spec_l4Sides.calls a0 a1 true _ A7.out).mono ?_); rintro e w' ⟨rfl, ⟨nd, rfl⟩⟩; (try first | exact ⟨rfl, _, World.drewN_drewN _ _ _⟩ | exact ⟨rfl, _, Eq.trans (World.drewN_drewN _ _ _) (congrArg (World.drewN _) (Nat.add_assoc _ _ _))⟩)) | (go_at_call 99; (with_reducible refine (spec_l6Screen.calls k (wrap64 (a0 * a1)) _ _ l2 false _ ?side1 ?side2 A10.out).mono ?_); (case side1 => repeat (first | exact (Kd.C_below HR2.out (by repeat (first | (with_reducible first | exact HB.out | apply below_alloc | apply pw_below_drewN | apply below_drew1 | refine below_set ?_ GE170.out) | exact HB.out))) | (with_reducible refine Kd.C_alloc ?_ _) | (with_reducible refine Kd.C_drewN ?_ _) | (with_reducible refine Kd.C_drew ?_))); (case side2 => exact HC2.out); rintro e w' ⟨rfl, ⟨nd, rfl⟩⟩; (try first | exact ⟨rfl, _, World.drewN_drewN _ _ _⟩ | exact ⟨rfl, _, Eq.trans (World.drewN_drewN _ _ _) (congrArg (World.drewN _) (Nat.add_assoc _ _ _))⟩))); try go_quiet (first | (go_at_call 98; (with_reducible refine (spec_l4Sides.calls a0 a1 true _ A7.out).mono ?_); rintro e w' ⟨rfl, ⟨nd, rfl⟩⟩; (try first | exact ⟨rfl, _, World.drewN_drewN _ _ _⟩ | exact ⟨rfl, _, Eq.trans (World.drewN_drewN _ _ _) (congrArg (World.drewN _) (Nat.add_assoc _ _ _))⟩)) | (go_at_call 99; (with_reducible refine (spec_l6Screen.calls k (wrap64 (a0 * a1)) _ _ l2 false _ ?side1 ?side2 A10.out).mono ?_); (case side1 => repeat (first | exact (Kd.C_below HR2.out (by repeat (first | (with_reducible first | exact HB.out | apply below_alloc | apply pw_below_drewN | apply below_drew1 | refine below_set ?_ GE170.out) | exact HB.out))) | (with_reducible refine Kd.C_alloc ?_ _) | (with_reducible refine Kd.C_drewN ?_ _) | (with_reducible refine Kd.C_drew ?_))); (case side2 => exact HC2.out); rintro e w' ⟨rfl, ⟨nd, rfl⟩⟩; (try first | exact ⟨rfl, _, World.drewN_drewN _ _ _⟩ | exact ⟨rfl, _, Eq.trans (World.drewN_drewN _ _ _) (congrArg (World.drewN _) (Nat.add_assoc _ _ _))⟩))))
      go_meet
      case rel => exact ⟨_, (true), (by first | rfl | (simp; done) | (simp [*]; done)), H', ⟨by first | omega | exact Nat.le_refl _⟩, ⟨by (with_reducible repeat (first | refine blk_drewN ?_ _ | refine blk_drew ?_ | refine blk_alloc ?_ _)); exact BK170.out⟩, ⟨by repeat (first | (with_reducible first | exact HB.out | apply below_alloc | apply pw_below_drewN | apply below_drew1 | refine below_set ?_ GE170.out) | exact HB.out)⟩⟩
    subst c11
    have H1 : ((spec_l6Screen.f k (wrap64 (a0 * a1)) l3).bind fun t173 => (spec_Between.j0 k a0 a1 l2 l3 (!t173))) = some (r1, r2, r3, r4, r5, r6, r7, r8) := by rw [if_pos rfl] at H; exact H
    clear H
    have H := H1
    clear H1
    replace H := Option.bind_eq_some_iff.mp H
    obtain ⟨t173, A120, H⟩ := H
    replace H : (spec_Between.j0 k a0 a1 l2 l3 (!t173)) = some (r1, r2, r3, r4, r5, r6, r7, r8) := H
    have A12 := Aside0.mk A120
    clear A120
    have H' := Aside0.mk H
    clear H
    iterate 3 (try go_wp2_with (first | (go_at_call 98; (with_reducible refine (spec_l4Sides.calls a0 a1 true _ A7.out).mono ?_); rintro e w' ⟨rfl, ⟨nd, rfl⟩⟩; (try first | exact ⟨rfl, _, World.drewN_drewN _ _ _⟩ | exact ⟨rfl, _, Eq.trans (World.drewN_drewN _ _ _) (congrArg (World.drewN _) (Nat.add_assoc _ _ _))⟩)) | (go_at_call 99; (with_reducible refine (spec_l6Screen.calls k (wrap64 (a0 * a1)) _ _ l2 true _ ?side1 ?side2 A10.out).mono ?_); (case side1 => repeat (first | exact (Kd.C_below HR2.out (by repeat (first | (with_reducible first | exact HB.out | apply below_alloc | apply pw_below_drewN | apply below_drew1 | refine below_set ?_ GE170.out) | exact HB.out))) | (with_reducible refine Kd.C_alloc ?_ _) | (with_reducible refine Kd.C_drewN ?_ _) | (with_reducible refine Kd.C_drew ?_))); (case side2 => exact HC2.out); rintro e w' ⟨rfl, ⟨nd, rfl⟩⟩; (try first | exact ⟨rfl, _, World.drewN_drewN _ _ _⟩ | exact ⟨rfl, _, Eq.trans (World.drewN_drewN _ _ _) (congrArg (World.drewN _) (Nat.add_assoc _ _ _))⟩)) | (go_at_call 99; (with_reducible refine (spec_l6Screen.calls k (wrap64 (a0 * a1)) _ _ l3 t173 _ ?side1 ?side2 A12.out).mono ?_); (case side1 => repeat (first | exact (Kd.C_below HR3.out (by repeat (first | (with_reducible first | exact HB.out | apply below_alloc | apply pw_below_drewN | apply below_drew1 | refine below_set ?_ GE170.out) | exact HB.out))) | (with_reducible refine Kd.C_alloc ?_ _) | (with_reducible refine Kd.C_drewN ?_ _) | (with_reducible refine Kd.C_drew ?_))); (case side2 => exact HC3.out); rintro e w' ⟨rfl, ⟨nd, rfl⟩⟩; (try first | exact ⟨rfl, _, World.drewN_drewN _ _ _⟩ | exact ⟨rfl, _, Eq.trans (World.drewN_drewN _ _ _) (congrArg (World.drewN _) (Nat.add_assoc _ _ _))⟩))); try go_quiet (first | (go_at_call 98; (with_reducible refine (spec_l4Sides.calls a0 a1 true _ A7.out).mono ?_); rintro e w' ⟨rfl, ⟨nd, rfl⟩⟩; (try first | exact ⟨rfl, _, World.drewN_drewN _ _ _⟩ | exact ⟨rfl, _, Eq.trans (World.drewN_drewN _ _ _) (congrArg (World.drewN _) (Nat.add_assoc _ _ _))⟩)) | (go_at_call 99; (with_reducible refine (spec_l6Screen.calls k (wrap64 (a0 * a1)) _ _ l2 true _ ?side1 ?side2 A10.out).mono ?_); (case side1 => repeat (first | exact (Kd.C_below HR2.out (by repeat (first | (with_reducible first | exact HB.out | apply below_alloc | apply pw_below_drewN | apply below_drew1 | refine below_set ?_ GE170.out) | exact HB.out))) | (with_reducible refine Kd.C_alloc ?_ _) | (with_reducible refine Kd.C_drewN ?_ _) | (with_reducible refine Kd.C_drew ?_))); (case side2 => exact HC2.out); rintro e w' ⟨rfl, ⟨nd, rfl⟩⟩; (try first | exact ⟨rfl, _, World.drewN_drewN _ _ _⟩ | exact ⟨rfl, _, Eq.trans (World.drewN_drewN _ _ _) (congrArg (World.drewN _) (Nat.add_assoc _ _ _))⟩)) | (go_at_call 99; (with_reducible refine (spec_l6Screen.calls k (wrap64 (a0 * a1)) _ _ l3 t173 _ ?side1 ?side2 A12.out).mono ?_); (case side1 => repeat (first | exact (Kd.C_below HR3.out (by repeat (first | (with_reducible first | exact HB.out | apply below_alloc | apply pw_below_drewN | apply below_drew1 | refine below_set ?_ GE170.out) | exact HB.out))) | (with_reducible refine Kd.C_alloc ?_ _) | (with_reducible refine Kd.C_drewN ?_ _) | (with_reducible refine Kd.C_drew ?_))); (case side2 => exact HC3.out); rintro e w' ⟨rfl, ⟨nd, rfl⟩⟩; (try first | exact ⟨rfl, _, World.drewN_drewN _ _ _⟩ | exact ⟨rfl, _, Eq.trans (World.drewN_drewN _ _ _) (congrArg (World.drewN _) (Nat.add_assoc _ _ _))⟩))))
    go_meet
    case rel => exact ⟨_, (!t173), (by first | rfl | (simp; done) | (simp [*]; done)), H', ⟨by first | omega | exact Nat.le_refl _⟩, ⟨by (with_reducible repeat (first | refine blk_drewN ?_ _ | refine blk_drew ?_ | refine blk_alloc ?_ _)); exact BK170.out⟩, ⟨by repeat (first | (with_reducible first | exact HB.out | apply below_alloc | apply pw_below_drewN | apply below_drew1 | refine below_set ?_ GE170.out) | exact HB.out)⟩⟩
  case rest =>
    clear HC5
    try clear c1
    try clear c2
    try clear p2
    try clear c3
    try clear p6
    try clear c8
    try clear c9
    try clear c9b0
    try clear c11
    obtain ⟨kq, x49_4, rfl, HA, HJ4, BK170, HB⟩ := hcut
    cases kq with
    | zero => exact absurd HA.out (by simp [spec_Between.j0])
    | succ kj4 =>
      have H := HA.out
      clear HA
      simp only [spec_Between.j0] at H
      by_cases c13 : x49_4 = true
      · subst c13
        have H1 : (some (0, 0, 0, 0, 0, 0, 0, ([] : List Int))) = some (r1, r2, r3, r4, r5, r6, r7, r8) := by rw [if_pos rfl] at H; exact H
        clear H
        have H := H1
        clear H1
        simp only [Option.some.injEq, Prod.mk.injEq] at H
        obtain ⟨rfl, rfl, rfl, rfl, rfl, rfl, rfl, rfl⟩ := H
        have hcz14_0 : wc.cell? ⟨gb170, 0, none⟩ = some (.int .i64 0) := (blk_cell BK170.out 0).trans rfl
        have hcz14_1 : wc.cell? ⟨gb170, 1, none⟩ = some (.int .i64 0) := (blk_cell BK170.out 1).trans rfl
        have hcz14_2 : wc.cell? ⟨gb170, 2, none⟩ = some (.int .i64 0) := (blk_cell BK170.out 2).trans rfl
        have hcz14_3 : wc.cell? ⟨gb170, 3, none⟩ = some (.int .i64 0) := (blk_cell BK170.out 3).trans rfl
        have hcz14_4 : wc.cell? ⟨gb170, 4, none⟩ = some (.int .i64 0) := (blk_cell BK170.out 4).trans rfl
        have hcz14_5 : wc.cell? ⟨gb170, 5, none⟩ = some (.int .i64 0) := (blk_cell BK170.out 5).trans rfl
        have hcz14_6 : wc.cell? ⟨gb170, 6, none⟩ = some (.int .i64 0) := (blk_cell BK170.out 6).trans rfl
        have hcz14_7 : wc.cell? ⟨gb170, 7, none⟩ = some (.slice none 0 0) := (blk_cell BK170.out 7).trans rfl
        have hfz14_0 := blk_frozen BK170.out 0
        have hfz14_1 := blk_frozen BK170.out 1
        have hfz14_2 := blk_frozen BK170.out 2
        have hfz14_3 := blk_frozen BK170.out 3
        have hfz14_4 := blk_frozen BK170.out 4
        have hfz14_5 := blk_frozen BK170.out 5
        have hfz14_6 := blk_frozen BK170.out 6
        have hfz14_7 := blk_frozen BK170.out 7
        go_wp2
        repeat (go_quiet (fail); try go_wp2)
        refine bodyPost_ret (results_cell_row rfl _ _ gb170 50 #[.int .i64 0, .int .i64 0, .int .i64 0, .int .i64 0, .int .i64 0, .int .i64 0, .int .i64 0, .slice none 0 0] (0, 0) _ rfl (by (with_reducible repeat (first | refine blk_drewN ?_ _ | refine blk_drew ?_ | refine blk_alloc ?_ _)); refine blk_put (cs := #[.int .i64 0, .int .i64 0, .int .i64 0, .int .i64 0, .int .i64 0, .int .i64 0, .int .i64 0, .slice none 0 0]) ?_ 7 _ rfl; (with_reducible repeat (first | refine blk_drewN ?_ _ | refine blk_drew ?_ | refine blk_alloc ?_ _)); refine blk_put (cs := #[.int .i64 0, .int .i64 0, .int .i64 0, .int .i64 0, .int .i64 0, .int .i64 0, .int .i64 0, .slice none 0 0]) ?_ 6 _ rfl; (with_reducible repeat (first | refine blk_drewN ?_ _ | refine blk_drew ?_ | refine blk_alloc ?_ _)); refine blk_put (cs := #[.int .i64 0, .int .i64 0, .int .i64 0, .int .i64 0, .int .i64 0, .int .i64 0, .int .i64 0, .slice none 0 0]) ?_ 5 _ rfl; (with_reducible repeat (first | refine blk_drewN ?_ _ | refine blk_drew ?_ | refine blk_alloc ?_ _)); refine blk_put (cs := #[.int .i64 0, .int .i64 0, .int .i64 0, .int .i64 0, .int .i64 0, .int .i64 0, .int .i64 0, .slice none 0 0]) ?_ 4 _ rfl; (with_reducible repeat (first | refine blk_drewN ?_ _ | refine blk_drew ?_ | refine blk_alloc ?_ _)); refine blk_put (cs := #[.int .i64 0, .int .i64 0, .int .i64 0, .int .i64 0, .int .i64 0, .int .i64 0, .int .i64 0, .slice none 0 0]) ?_ 3 _ rfl; (with_reducible repeat (first | refine blk_drewN ?_ _ | refine blk_drew ?_ | refine blk_alloc ?_ _)); refine blk_put (cs := #[.int .i64 0, .int .i64 0, .int .i64 0, .int .i64 0, .int .i64 0, .int .i64 0, .int .i64 0, .slice none 0 0]) ?_ 2 _ rfl; (with_reducible repeat (first | refine blk_drewN ?_ _ | refine blk_drew ?_ | refine blk_alloc ?_ _)); refine blk_put (cs := #[.int .i64 0, .int .i64 0, .int .i64 0, .int .i64 0, .int .i64 0, .int .i64 0, .int .i64 0, .slice none 0 0]) ?_ 1 _ rfl; (with_reducible repeat (first | refine blk_drewN ?_ _ | refine blk_drew ?_ | refine blk_alloc ?_ _)); refine blk_put (cs := #[.int .i64 0, .int .i64 0, .int .i64 0, .int .i64 0, .int .i64 0, .int .i64 0, .int .i64 0, .slice none 0 0]) ?_ 0 _ rfl; (with_reducible repeat (first | refine blk_drewN ?_ _ | refine blk_drew ?_ | refine blk_alloc ?_ _)); exact BK170.out) Try.underlying50 rfl (by kernel_rfl)) rfl ?_
        exact ⟨_, by first | rfl | (simp [errW_none, errW_some] <;> rfl) | (simp [*, errW_none, errW_some] <;> rfl), by first | exact Kd.R_nil _ _ _ _ _ | exact Kd.N_nil _ _ _ _ _ | exact Kd.V_nil _ _ _ _ _ | exact Kd.Q_nil _ _ _ _ _ | exact Kd.S_nil _ _ _ _ _, by repeat (first | (with_reducible first | exact HB.out | apply below_alloc | apply pw_below_drewN | apply below_drew1 | refine below_set ?_ GE170.out) | exact HB.out)⟩
      replace c13 := Bool.eq_false_iff.mpr c13
      subst c13
      have H1 : (spec_Between.l0 kj4 a0 l2 l3 a0 a1 (-1) (-1) (l2.length : Int) 0) = some (r1, r2, r3, r4, r5, r6, r7, r8) := by rw [if_neg (show ¬ (false = true) by decide)] at H; exact H
      clear H
      have H := H1
      clear H1
      have H' := Aside0.mk H
      clear H
      go_wp2
      repeat (go_quiet (fail); try go_wp2)
      go_loopg [9, 10, 11, 12, 55] kj4 (fun kq v9 v10 v11 v12 v55 w' => ∃ (x9_2 : Int) (x10_2 : Int) (x11_2 : Int) (x12_2 : Int) (x55_2 : Int), v9 = .int .i64 x9_2 ∧ v10 = .int .i64 x10_2 ∧ v11 = .int .i64 x11_2 ∧ v12 = .int .i64 x12_2 ∧ v55 = .int .i64 x55_2 ∧ Aside0 (spec_Between.l0 kq a0 l2 l3 x9_2 x10_2 x11_2 x12_2 (l2.length : Int) x55_2 = some (r1, r2, r3, r4, r5, r6, r7, r8)) ∧ Aside0 (kq ≤ kj4) ∧ Aside0 (w'.heap[gb170]? = some (.cells #[.int .i64 0, .int .i64 0, .int .i64 0, .int .i64 0, .int .i64 0, .int .i64 0, .int .i64 0, (.slice none 0 0)] 50 (0, 0))) ∧ Aside0 (Below w.heap.size w w'))
      case atStart => exact ⟨(a0), (a1), ((-1)), ((-1)), (0), (by first | rfl | (simp; done) | (simp [*]; done)), (by first | rfl | (simp; done) | (simp [*]; done)), (by first | rfl | (simp; done) | (simp [*]; done)), (by first | rfl | (simp; done) | (simp [*]; done)), (by first | rfl | (simp; done) | (simp [*]; done)), H', ⟨Nat.le_refl _⟩, ⟨by (with_reducible repeat (first | refine blk_drewN ?_ _ | refine blk_drew ?_ | refine blk_alloc ?_ _)); exact BK170.out⟩, ⟨by repeat (first | (with_reducible first | exact HB.out | apply below_alloc | apply pw_below_drewN | apply below_drew1 | refine below_set ?_ GE170.out) | exact HB.out)⟩⟩
      case round =>
        clear H'
        try clear c1
        try clear c2
        try clear p2
        try clear c3
        try clear p6
        try clear c8
        try clear c9
        try clear c9b0
        try clear c11
        try clear c13
        try clear hcz14_0
        try clear hcz14_1
        try clear hcz14_2
        try clear hcz14_3
        try clear hcz14_4
        try clear hcz14_5
        try clear hcz14_6
        try clear hcz14_7
        try clear hfz14_0
        try clear hfz14_1
        try clear hfz14_2
        try clear hfz14_3
        try clear hfz14_4
        try clear hfz14_5
        try clear hfz14_6
        try clear hfz14_7
        try clear p2
        try clear p6
        obtain ⟨x9_2, x10_2, x11_2, x12_2, x55_2, rfl, rfl, rfl, rfl, rfl, HA, HK2, BK170, HB⟩ := hrel
        cases gk with
        | zero => exact absurd HA.out (by simp [spec_Between.l0])
        | succ k2 =>
          have H := HA.out
          clear HA
          simp only [spec_Between.l0] at H
          by_cases c15 : x55_2 < (l2.length : Int)
          · rw [if_pos c15] at H
            have c15b0 : decide (x55_2 < (l2.length : Int)) = true := decide_eq_true c15
            clear c15
            by_cases c16 : 0 ≤ x55_2
            rotate_left
            · rw [if_neg c16] at H
              exact absurd H (by simp)
            rw [if_pos c16] at H
            have c16b0 : decide (0 ≤ x55_2) = true := decide_eq_true c16
            clear c16
            by_cases c17 : x55_2 < (l2.length : Int)
            rotate_left
            · rw [if_neg c17] at H
              exact absurd H (by simp)
            rw [if_pos c17] at H
            have c17b0 : decide (x55_2 < (l2.length : Int)) = true := decide_eq_true c17
            clear c17
            by_cases c18 : x55_2 < (l3.length : Int)
            rotate_left
            · rw [if_neg c18] at H
              exact absurd H (by simp)
            rw [if_pos c18] at H
            have c18b0 : decide (x55_2 < (l3.length : Int)) = true := decide_eq_true c18
            clear c18
            by_cases c19 : (rd l2 x55_2) = (rd l3 x55_2)
            · rw [if_pos c19] at H
              have c19b0 : ((rd l2 x55_2) == (rd l3 x55_2)) = true := beq_iff_eq.mpr c19
              have c19b1 : ((rd l2 x55_2) != (rd l3 x55_2)) = false := bne_eq_false_iff_eq.mpr c19
              clear c19
              have H' := Aside0.mk H
              clear H
              have p174 : 0 ≤ (x55_2 : Int) := of_decide_eq_true (by first | (with_reducible assumption) | assumption)
              have q174 : x55_2 < (l2.length : Int) := of_decide_eq_true (by first | (with_reducible assumption) | assumption)
              obtain ⟨ad174, e174, hx174_0⟩ := Kd.at_int HR2.out x55_2 p174 q174
              cases e174
              replace hx174_0 := (HB.out.cell (World.block_lt_of_cell? w _ hx174_0)).trans hx174_0
              replace p174 := eq_true p174
              replace q174 := eq_true q174
              have p175 : 0 ≤ (x55_2 : Int) := of_decide_eq_true (by first | (with_reducible assumption) | assumption)
              have q175 : x55_2 < (l3.length : Int) := of_decide_eq_true (by first | (with_reducible assumption) | assumption)
              obtain ⟨ad175, e175, hx175_0⟩ := Kd.at_int HR3.out x55_2 p175 q175
              cases e175
              replace hx175_0 := (HB.out.cell (World.block_lt_of_cell? w _ hx175_0)).trans hx175_0
              replace p175 := eq_true p175
              replace q175 := eq_true q175
              go_wp2
              repeat (go_quiet (fail); try go_wp2)
              go_roundg k2
              case measure => have := HJ4.out; have := HK2.out; omega
              case rel => exact ⟨(x9_2), (x10_2), (x11_2), (x12_2), (wrap64 (x55_2 + 1)), (by first | rfl | (simp; done) | (simp [*]; done)), (by first | rfl | (simp; done) | (simp [*]; done)), (by first | rfl | (simp; done) | (simp [*]; done)), (by first | rfl | (simp; done) | (simp [*]; done)), (by first | rfl | (simp; done) | (simp [*]; done)), H', ⟨by have := HJ4.out; have := HK2.out; omega⟩, ⟨by (with_reducible repeat (first | refine blk_drewN ?_ _ | refine blk_drew ?_ | refine blk_alloc ?_ _)); exact BK170.out⟩, ⟨by repeat (first | (with_reducible first | exact HB.out | apply below_alloc | apply pw_below_drewN | apply below_drew1 | refine below_set ?_ GE170.out) | exact HB.out)⟩⟩
            rw [if_neg c19] at H
            have c19b0 : ((rd l2 x55_2) == (rd l3 x55_2)) = false := beq_eq_false_iff_ne.mpr c19
            have c19b1 : ((rd l2 x55_2) != (rd l3 x55_2)) = true := bne_iff_ne.mpr c19
            by_cases c20 : a0 = 0
            · rw [if_pos c20] at H
              exact absurd H (by simp)
            rw [if_neg c20] at H
            have c20b0 : (a0 == 0) = false := beq_eq_false_iff_ne.mpr c20
            have c20b1 : (a0 != 0) = true := bne_iff_ne.mpr c20
            have HC21 := Aside0.mk H
            clear H
            have p174 : 0 ≤ (x55_2 : Int) := of_decide_eq_true (by first | (with_reducible assumption) | assumption)
            have q174 : x55_2 < (l2.length : Int) := of_decide_eq_true (by first | (with_reducible assumption) | assumption)
            obtain ⟨ad174, e174, hx174_0⟩ := Kd.at_int HR2.out x55_2 p174 q174
            cases e174
            replace hx174_0 := (HB.out.cell (World.block_lt_of_cell? w _ hx174_0)).trans hx174_0
            replace p174 := eq_true p174
            replace q174 := eq_true q174
            have p175 : 0 ≤ (x55_2 : Int) := of_decide_eq_true (by first | (with_reducible assumption) | assumption)
            have q175 : x55_2 < (l3.length : Int) := of_decide_eq_true (by first | (with_reducible assumption) | assumption)
            obtain ⟨ad175, e175, hx175_0⟩ := Kd.at_int HR3.out x55_2 p175 q175
            cases e175
            replace hx175_0 := (HB.out.cell (World.block_lt_of_cell? w _ hx175_0)).trans hx175_0
            replace p175 := eq_true p175
            replace q175 := eq_true q175
            go_upto_if 75 with (fail)
            repeat (go_quiet (fail); go_upto_if 75 with (fail))
            go_cut [9] (fun v9 wc => ∃ (kq : Nat) (x9_20 : Int), v9 = .int .i64 x9_20 ∧ Aside0 (spec_Between.j2 kq a0 l2 l3 x9_20 x10_2 x11_2 x12_2 (Int.tmod x55_2 a0) (wrap64 (Int.tdiv x55_2 a0)) (l2.length : Int) x55_2 = some (r1, r2, r3, r4, r5, r6, r7, r8)) ∧ Aside0 (kq ≤ k2) ∧ Aside0 (wc.heap[gb170]? = some (.cells #[.int .i64 0, .int .i64 0, .int .i64 0, .int .i64 0, .int .i64 0, .int .i64 0, .int .i64 0, (.slice none 0 0)] 50 (0, 0))) ∧ Aside0 (Below w.heap.size w wc))
            case first =>
              have H := HC21.out
              clear HC21
              by_cases c22 : (Int.tmod x55_2 a0) < x9_2
              rotate_left
              · rw [if_neg c22] at H
                have c22b0 : decide ((Int.tmod x55_2 a0) < x9_2) = false := decide_eq_false c22
                clear c22
                (first | rw [c22b0] | (simp only [i64_w, i32_w]; rw [c22b0]) | skip)
                have H' := Aside0.mk H
                clear H
                go_wp2
                repeat (go_quiet (fail); try go_wp2)
                go_meet
                case rel => exact ⟨_, (x9_2), (by first | rfl | (simp; done) | (simp [*]; done)), H', ⟨by have := HJ4.out; have := HK2.out; first | omega | exact Nat.le_refl _⟩, ⟨by (with_reducible repeat (first | refine blk_drewN ?_ _ | refine blk_drew ?_ | refine blk_alloc ?_ _)); exact BK170.out⟩, ⟨by repeat (first | (with_reducible first | exact HB.out | apply below_alloc | apply pw_below_drewN | apply below_drew1 | refine below_set ?_ GE170.out) | exact HB.out)⟩⟩
              rw [if_pos c22] at H
              have c22b0 : decide ((Int.tmod x55_2 a0) < x9_2) = true := decide_eq_true c22
              clear c22
              (first | rw [c22b0] | (simp only [i64_w, i32_w]; rw [c22b0]) | skip)
              have H' := Aside0.mk H
              clear H
              go_wp2
              repeat (go_quiet (fail); try go_wp2)
              go_meet
              case rel => exact ⟨_, (Int.tmod x55_2 a0), (by first | rfl | (simp; done) | (simp [*]; done)), H', ⟨by have := HJ4.out; have := HK2.out; first | omega | exact Nat.le_refl _⟩, ⟨by (with_reducible repeat (first | refine blk_drewN ?_ _ | refine blk_drew ?_ | refine blk_alloc ?_ _)); exact BK170.out⟩, ⟨by repeat (first | (with_reducible first | exact HB.out | apply below_alloc | apply pw_below_drewN | apply below_drew1 | refine below_set ?_ GE170.out) | exact HB.out)⟩⟩
            case rest =>
              clear HC21
              try clear c1
              try clear p1
              try clear q1
              try clear hx1
              try clear c2
              try clear p2
              try clear c3
              try clear p6
              try clear c8
              try clear c9
              try clear c9b0
              try clear c11
              try clear c13
              try clear c15
              try clear c15b0
              try clear c16
              try clear c16b0
              try clear c17
              try clear c17b0
              try clear p17
              try clear q17
              try clear hx17
              try clear c18
              try clear c18b0
              try clear c19
              try clear c19b0
              try clear c19b1
              try clear c20
              try clear c20b0
              try clear c20b1
              try clear c22
              try clear c22b0
              try clear hcz14_0
              try clear hcz14_1
              try clear hcz14_2
              try clear hcz14_3
              try clear hcz14_4
              try clear hcz14_5
              try clear hcz14_6
              try clear hcz14_7
              try clear hfz14_0
              try clear hfz14_1
              try clear hfz14_2
              try clear hfz14_3
              try clear hfz14_4
              try clear hfz14_5
              try clear hfz14_6
              try clear hfz14_7
              try clear hx174_0
              try clear hx175_0
              try clear p174
              try clear p175
              try clear p2
              try clear p6
              try clear q174
              try clear q175
              obtain ⟨kq, x9_20, rfl, HA, HJ20, BK170, HB⟩ := hcut
              cases kq with
              | zero => exact absurd HA.out (by simp [spec_Between.j2])
              | succ kj20 =>
                have H := HA.out
                clear HA
                simp only [spec_Between.j2] at H
                have HC23 := Aside0.mk H
                clear H
                go_upto_if 79 with (fail)
                repeat (go_quiet (fail); go_upto_if 79 with (fail))
                go_cut [11] (fun v11 wc => ∃ (kq : Nat) (x11_22 : Int), v11 = .int .i64 x11_22 ∧ Aside0 (spec_Between.j3 kq a0 l2 l3 x9_20 x10_2 x11_22 x12_2 (wrap64 (Int.tdiv x55_2 a0)) (l2.length : Int) x55_2 = some (r1, r2, r3, r4, r5, r6, r7, r8)) ∧ Aside0 (kq ≤ kj20) ∧ Aside0 (wc.heap[gb170]? = some (.cells #[.int .i64 0, .int .i64 0, .int .i64 0, .int .i64 0, .int .i64 0, .int .i64 0, .int .i64 0, (.slice none 0 0)] 50 (0, 0))) ∧ Aside0 (Below w.heap.size w wc))
                case first =>
                  have H := HC23.out
                  clear HC23
                  by_cases c24 : (Int.tmod x55_2 a0) > x11_2
                  rotate_left
                  · rw [if_neg c24] at H
                    have c24b0 : decide (x11_2 < (Int.tmod x55_2 a0)) = false := decide_eq_false c24
                    clear c24
                    (first | rw [c24b0] | (simp only [i64_w, i32_w]; rw [c24b0]) | skip)
                    have H' := Aside0.mk H
                    clear H
                    go_wp2
                    repeat (go_quiet (fail); try go_wp2)
                    go_meet
                    case rel => exact ⟨_, (x11_2), (by first | rfl | (simp; done) | (simp [*]; done)), H', ⟨by have := HJ4.out; have := HK2.out; have := HJ20.out; first | omega | exact Nat.le_refl _⟩, ⟨by (with_reducible repeat (first | refine blk_drewN ?_ _ | refine blk_drew ?_ | refine blk_alloc ?_ _)); exact BK170.out⟩, ⟨by repeat (first | (with_reducible first | exact HB.out | apply below_alloc | apply pw_below_drewN | apply below_drew1 | refine below_set ?_ GE170.out) | exact HB.out)⟩⟩
                  rw [if_pos c24] at H
                  have c24b0 : decide (x11_2 < (Int.tmod x55_2 a0)) = true := decide_eq_true c24
                  clear c24
                  (first | rw [c24b0] | (simp only [i64_w, i32_w]; rw [c24b0]) | skip)
                  have H' := Aside0.mk H
                  clear H
                  go_wp2
                  repeat (go_quiet (fail); try go_wp2)
                  go_meet
                  case rel => exact ⟨_, ((Int.tmod x55_2 a0)), (by first | rfl | (simp; done) | (simp [*]; done)), H', ⟨by have := HJ4.out; have := HK2.out; have := HJ20.out; first | omega | exact Nat.le_refl _⟩, ⟨by (with_reducible repeat (first | refine blk_drewN ?_ _ | refine blk_drew ?_ | refine blk_alloc ?_ _)); exact BK170.out⟩, ⟨by repeat (first | (with_reducible first | exact HB.out | apply below_alloc | apply pw_below_drewN | apply below_drew1 | refine below_set ?_ GE170.out) | exact HB.out)⟩⟩
                case rest =>
                  clear HC23
                  try clear c1
                  try clear p1
                  try clear q1
                  try clear hx1
                  try clear c2
                  try clear p2
                  try clear c3
                  try clear p6
                  try clear c8
                  try clear c9
                  try clear c9b0
                  try clear c11
                  try clear c13
                  try clear c15
                  try clear c15b0
                  try clear c16
                  try clear c16b0
                  try clear c17
                  try clear c17b0
                  try clear p17
                  try clear q17
                  try clear hx17
                  try clear c18
                  try clear c18b0
                  try clear c19
                  try clear c19b0
                  try clear c19b1
                  try clear c20
                  try clear c20b0
                  try clear c20b1
                  try clear c22
                  try clear c22b0
                  try clear c24
                  try clear c24b0
                  try clear hcz14_0
                  try clear hcz14_1
                  try clear hcz14_2
                  try clear hcz14_3
                  try clear hcz14_4
                  try clear hcz14_5
                  try clear hcz14_6
                  try clear hcz14_7
                  try clear hfz14_0
                  try clear hfz14_1
                  try clear hfz14_2
                  try clear hfz14_3
                  try clear hfz14_4
                  try clear hfz14_5
                  try clear hfz14_6
                  try clear hfz14_7
                  try clear hx174_0
                  try clear hx175_0
                  try clear p1
                  try clear p17
                  try clear p174
                  try clear p175
                  try clear p2
                  try clear p6
                  try clear q1
                  try clear q17
                  try clear q174
                  try clear q175
                  obtain ⟨kq, x11_22, rfl, HA, HJ22, BK170, HB⟩ := hcut
                  cases kq with
                  | zero => exact absurd HA.out (by simp [spec_Between.j3])
                  | succ kj22 =>
                    have H := HA.out
                    clear HA
                    simp only [spec_Between.j3] at H
                    by_cases c25 : (wrap64 (Int.tdiv x55_2 a0)) < x10_2
                    rotate_left
                    · rw [if_neg c25] at H
                      have c25b0 : decide ((wrap64 (Int.tdiv x55_2 a0)) < x10_2) = false := decide_eq_false c25
                      clear c25
                      by_cases c27 : (wrap64 (Int.tdiv x55_2 a0)) > x12_2
                      rotate_left
                      · rw [if_neg c27] at H
                        have c27b0 : decide (x12_2 < (wrap64 (Int.tdiv x55_2 a0))) = false := decide_eq_false c27
                        clear c27
                        have H' := Aside0.mk H
                        clear H
                        go_wp2
                        repeat (go_quiet (fail); try go_wp2)
                        go_roundg kj22
                        case measure => have := HJ4.out; have := HK2.out; have := HJ20.out; have := HJ22.out; omega
                        case rel => exact ⟨(x9_20), (x10_2), (x11_22), (x12_2), (wrap64 (x55_2 + 1)), (by first | rfl | (simp; done) | (simp [*]; done)), (by first | rfl | (simp; done) | (simp [*]; done)), (by first | rfl | (simp; done) | (simp [*]; done)), (by first | rfl | (simp; done) | (simp [*]; done)), (by first | rfl | (simp; done) | (simp [*]; done)), H', ⟨by have := HJ4.out; have := HK2.out; have := HJ20.out; have := HJ22.out; omega⟩, ⟨by (with_reducible repeat (first | refine blk_drewN ?_ _ | refine blk_drew ?_ | refine blk_alloc ?_ _)); exact BK170.out⟩, ⟨by repeat (first | (with_reducible first | exact HB.out | apply below_alloc | apply pw_below_drewN | apply below_drew1 | refine below_set ?_ GE170.out) | exact HB.out)⟩⟩
                      rw [if_pos c27] at H
                      have c27b0 : decide (x12_2 < (wrap64 (Int.tdiv x55_2 a0))) = true := decide_eq_true c27
                      clear c27
                      have H' := Aside0.mk H
                      clear H
                      go_wp2
                      repeat (go_quiet (fail); try go_wp2)
                      go_roundg kj22
                      case measure => have := HJ4.out; have := HK2.out; have := HJ20.out; have := HJ22.out; omega
                      case rel => exact ⟨(x9_20), (x10_2), (x11_22), ((wrap64 (Int.tdiv x55_2 a0))), (wrap64 (x55_2 + 1)), (by first | rfl | (simp; done) | (simp [*]; done)), (by first | rfl | (simp; done) | (simp [*]; done)), (by first | rfl | (simp; done) | (simp [*]; done)), (by first | rfl | (simp; done) | (simp [*]; done)), (by first | rfl | (simp; done) | (simp [*]; done)), H', ⟨by have := HJ4.out; have := HK2.out; have := HJ20.out; have := HJ22.out; omega⟩, ⟨by (with_reducible repeat (first | refine blk_drewN ?_ _ | refine blk_drew ?_ | refine blk_alloc ?_ _)); exact BK170.out⟩, ⟨by repeat (first | (with_reducible first | exact HB.out | apply below_alloc | apply pw_below_drewN | apply below_drew1 | refine below_set ?_ GE170.out) | exact HB.out)⟩⟩
                    rw [if_pos c25] at H
                    have c25b0 : decide ((wrap64 (Int.tdiv x55_2 a0)) < x10_2) = true := decide_eq_true c25
                    clear c25
                    by_cases c26 : (wrap64 (Int.tdiv x55_2 a0)) > x12_2
                    rotate_left
                    · rw [if_neg c26] at H
                      have c26b0 : decide (x12_2 < (wrap64 (Int.tdiv x55_2 a0))) = false := decide_eq_false c26
                      clear c26
                      have H' := Aside0.mk H
                      clear H
                      go_wp2
                      repeat (go_quiet (fail); try go_wp2)
                      go_roundg kj22
                      case measure => have := HJ4.out; have := HK2.out; have := HJ20.out; have := HJ22.out; omega
                      case rel => exact ⟨(x9_20), ((wrap64 (Int.tdiv x55_2 a0))), (x11_22), (x12_2), (wrap64 (x55_2 + 1)), (by first | rfl | (simp; done) | (simp [*]; done)), (by first | rfl | (simp; done) | (simp [*]; done)), (by first | rfl | (simp; done) | (simp [*]; done)), (by first | rfl | (simp; done) | (simp [*]; done)), (by first | rfl | (simp; done) | (simp [*]; done)), H', ⟨by have := HJ4.out; have := HK2.out; have := HJ20.out; have := HJ22.out; omega⟩, ⟨by (with_reducible repeat (first | refine blk_drewN ?_ _ | refine blk_drew ?_ | refine blk_alloc ?_ _)); exact BK170.out⟩, ⟨by repeat (first | (with_reducible first | exact HB.out | apply below_alloc | apply pw_below_drewN | apply below_drew1 | refine below_set ?_ GE170.out) | exact HB.out)⟩⟩
                    rw [if_pos c26] at H
                    have c26b0 : decide (x12_2 < (wrap64 (Int.tdiv x55_2 a0))) = true := decide_eq_true c26
                    clear c26
                    have H' := Aside0.mk H
                    clear H
                    go_wp2
                    repeat (go_quiet (fail); try go_wp2)
                    go_roundg kj22
                    case measure => have := HJ4.out; have := HK2.out; have := HJ20.out; have := HJ22.out; omega
                    case rel => exact ⟨(x9_20), ((wrap64 (Int.tdiv x55_2 a0))), (x11_22), ((wrap64 (Int.tdiv x55_2 a0))), (wrap64 (x55_2 + 1)), (by first | rfl | (simp; done) | (simp [*]; done)), (by first | rfl | (simp; done) | (simp [*]; done)), (by first | rfl | (simp; done) | (simp [*]; done)), (by first | rfl | (simp; done) | (simp [*]; done)), (by first | rfl | (simp; done) | (simp [*]; done)), H', ⟨by have := HJ4.out; have := HK2.out; have := HJ20.out; have := HJ22.out; omega⟩, ⟨by (with_reducible repeat (first | refine blk_drewN ?_ _ | refine blk_drew ?_ | refine blk_alloc ?_ _)); exact BK170.out⟩, ⟨by repeat (first | (with_reducible first | exact HB.out | apply below_alloc | apply pw_below_drewN | apply below_drew1 | refine below_set ?_ GE170.out) | exact HB.out)⟩⟩
          rw [if_neg c15] at H
          have c15b0 : decide (x55_2 < (l2.length : Int)) = false := decide_eq_false c15
          clear c15
          have HC28 := Aside0.mk H
          clear H
          go_upto_if 91 with (fail)
          repeat (go_quiet (fail); go_upto_if 91 with (fail))
          go_cut [9, 10, 11, 12] (fun v9 v10 v11 v12 wc => ∃ (kq : Nat) (x9_27 : Int) (x10_27 : Int) (x11_27 : Int) (x12_27 : Int), v9 = .int .i64 x9_27 ∧ v10 = .int .i64 x10_27 ∧ v11 = .int .i64 x11_27 ∧ v12 = .int .i64 x12_27 ∧ Aside0 (spec_Between.j4 kq a0 l3 x9_27 x10_27 x11_27 x12_27 = some (r1, r2, r3, r4, r5, r6, r7, r8)) ∧ Aside0 (kq ≤ k2) ∧ Aside0 (wc.heap[gb170]? = some (.cells #[.int .i64 0, .int .i64 0, .int .i64 0, .int .i64 0, .int .i64 0, .int .i64 0, .int .i64 0, (.slice none 0 0)] 50 (0, 0))) ∧ Aside0 (Below w.heap.size w wc))
          case first =>
            have H := HC28.out
            clear HC28
            by_cases c29 : x11_2 < 0
            · rw [if_pos c29] at H
              have c29b0 : decide (x11_2 < 0) = true := decide_eq_true c29
              clear c29
              (first | rw [c29b0] | (simp only [i64_w, i32_w]; rw [c29b0]) | skip)
              have H' := Aside0.mk H
              clear H
              go_wp2
              repeat (go_quiet (fail); try go_wp2)
              go_meet
              case rel => exact ⟨_, (0), (0), (0), (0), (by first | rfl | (simp; done) | (simp [*]; done)), (by first | rfl | (simp; done) | (simp [*]; done)), (by first | rfl | (simp; done) | (simp [*]; done)), (by first | rfl | (simp; done) | (simp [*]; done)), H', ⟨by have := HJ4.out; have := HK2.out; first | omega | exact Nat.le_refl _⟩, ⟨by (with_reducible repeat (first | refine blk_drewN ?_ _ | refine blk_drew ?_ | refine blk_alloc ?_ _)); exact BK170.out⟩, ⟨by repeat (first | (with_reducible first | exact HB.out | apply below_alloc | apply pw_below_drewN | apply below_drew1 | refine below_set ?_ GE170.out) | exact HB.out)⟩⟩
            rw [if_neg c29] at H
            have c29b0 : decide (x11_2 < 0) = false := decide_eq_false c29
            clear c29
            (first | rw [c29b0] | (simp only [i64_w, i32_w]; rw [c29b0]) | skip)
            have H' := Aside0.mk H
            clear H
            go_wp2
            repeat (go_quiet (fail); try go_wp2)
            go_meet
            case rel => exact ⟨_, (x9_2), (x10_2), (x11_2), (x12_2), (by first | rfl | (simp; done) | (simp [*]; done)), (by first | rfl | (simp; done) | (simp [*]; done)), (by first | rfl | (simp; done) | (simp [*]; done)), (by first | rfl | (simp; done) | (simp [*]; done)), H', ⟨by have := HJ4.out; have := HK2.out; first | omega | exact Nat.le_refl _⟩, ⟨by (with_reducible repeat (first | refine blk_drewN ?_ _ | refine blk_drew ?_ | refine blk_alloc ?_ _)); exact BK170.out⟩, ⟨by repeat (first | (with_reducible first | exact HB.out | apply below_alloc | apply pw_below_drewN | apply below_drew1 | refine below_set ?_ GE170.out) | exact HB.out)⟩⟩
          case rest =>
            clear HC28
            try clear c1
            try clear p1
            try clear q1
            try clear hx1
            try clear c2
            try clear p2
            try clear c3
            try clear p6
            try clear c8
            try clear c9
            try clear c9b0
            try clear c11
            try clear c13
            try clear c15
            try clear c15b0
            try clear c16
            try clear c16b0
            try clear c17
            try clear c17b0
            try clear p17
            try clear q17
            try clear hx17
            try clear c18
            try clear c18b0
            try clear c19
            try clear c19b0
            try clear c19b1
            try clear c20
            try clear c20b0
            try clear c20b1
            try clear c22
            try clear c22b0
            try clear c24
            try clear c24b0
            try clear c25
            try clear c25b0
            try clear c26
            try clear c26b0
            try clear c27
            try clear c27b0
            try clear c29
            try clear c29b0
            try clear hcz14_0
            try clear hcz14_1
            try clear hcz14_2
            try clear hcz14_3
            try clear hcz14_4
            try clear hcz14_5
            try clear hcz14_6
            try clear hcz14_7
            try clear hfz14_0
            try clear hfz14_1
            try clear hfz14_2
            try clear hfz14_3
            try clear hfz14_4
            try clear hfz14_5
            try clear hfz14_6
            try clear hfz14_7
            try clear hx174_0
            try clear hx175_0
            try clear p1
            try clear p17
            try clear p174
            try clear p175
            try clear p2
            try clear p6
            try clear q1
            try clear q17
            try clear q174
            try clear q175
            obtain ⟨kq, x9_27, x10_27, x11_27, x12_27, rfl, rfl, rfl, rfl, HA, HJ27, BK170, HB⟩ := hcut
            cases kq with
            | zero => exact absurd HA.out (by simp [spec_Between.j4])
            | succ kj27 =>
              have H := HA.out
              clear HA
              simp only [spec_Between.j4] at H
              by_cases c30 : 256 ≤ 281474976710656
              rotate_left
              · rw [if_neg c30] at H
                exact absurd H (by simp)
              rw [if_pos c30] at H
              have c30b0 := eq_true c30
              have c30b1 : decide (256 ≤ 281474976710656) = true := decide_eq_true c30
              clear c30
              obtain ⟨y177, hy177⟩ : ∃ y_ : List Bool, y_ = (List.replicate 256 false) := ⟨_, rfl⟩
              replace H : (spec_Between.l1 kj27 a0 l3 x9_27 x11_27 x12_27 y177 false x10_27 x9_27 x10_27 (wrap64 ((wrap64 (x11_27 - x9_27)) + 1)) (wrap64 ((wrap64 (x12_27 - x10_27)) + 1)) 0 0 (-1) ([] : List Int)) = some (r1, r2, r3, r4, r5, r6, r7, r8) := by first | (rw [hy177]; with_reducible exact H) | (have H2_ := (Option.bind_some _ _).symm.trans H; rw [hy177]; with_reducible exact H2_) | (have H2_ := (Option.bind_some _ _).symm.trans H; with_reducible exact H2_) | with_reducible exact H | (rw [hy177]; exact H) | exact H
              have Ny177 := Aside0.mk hy177
              clear hy177
              have H' := Aside0.mk H
              clear H
              iterate 3 (try go_wp2_with (first | ((with_reducible refine gate_dst (N := 16) rfl ?_); refine box_event ?hg (N := 16) ?hd (cs := #[.int .i64 0, .int .i64 0, .int .i64 0, .int .i64 0, .int .i64 0, .int .i64 0, .int .i64 0, .slice none 0 0]) (t := 50) ?hr ?_; (case hd => rfl); (case hg => rfl); (case hr => first | (go_simp; done) | (go_simp; rfl)); intro gb176 hg w31 hbox hb; have n0_ := Aside0.mk (blk_below (g := gb170) (o := .cells #[.int .i64 0, .int .i64 0, .int .i64 0, .int .i64 0, .int .i64 0, .int .i64 0, .int .i64 0, .slice none 0 0] 50 (0, 0)) (by (with_reducible repeat (first | refine blk_drewN ?_ _ | refine blk_drew ?_ | refine blk_alloc ?_ _)); exact BK170.out) hb); have n1_ := Aside0.mk (below_step (by repeat (first | (with_reducible first | exact HB.out | apply below_alloc | apply pw_below_drewN | apply below_drew1 | refine below_set ?_ GE170.out) | exact HB.out)) hb); have n2_ := Aside0.mk (hbox); have n3_ := Aside0.mk ((by rw [hg]; exact (below_size (by repeat (first | (with_reducible first | exact HB.out | apply below_alloc | apply pw_below_drewN | apply below_drew1 | refine below_set ?_ GE170.out) | exact HB.out))) : w.heap.size ≤ gb176)); have n4_ := n3_; have n5_ := Aside0.mk ((by rw [hg]; exact Nat.ne_of_lt (blk_lt (g := gb170) (o := .cells #[.int .i64 0, .int .i64 0, .int .i64 0, .int .i64 0, .int .i64 0, .int .i64 0, .int .i64 0, .slice none 0 0] 50 (0, 0)) (by (with_reducible repeat (first | refine blk_drewN ?_ _ | refine blk_drew ?_ | refine blk_alloc ?_ _)); exact BK170.out)) : gb170 ≠ gb176)); have n6_ := Aside0.mk ((by rw [hg]; exact Nat.ne_of_gt (blk_lt (g := gb170) (o := .cells #[.int .i64 0, .int .i64 0, .int .i64 0, .int .i64 0, .int .i64 0, .int .i64 0, .int .i64 0, .slice none 0 0] 50 (0, 0)) (by (with_reducible repeat (first | refine blk_drewN ?_ _ | refine blk_drew ?_ | refine blk_alloc ?_ _)); exact BK170.out)) : gb176 ≠ gb170)); clear BK170; clear HB; have BK170 := n0_; have HB := n1_; have BK176 := n2_; have GW176 := n3_; have GE176 := n4_; have NB170_176 := n5_; have NB176_170 := n6_; clear n0_ n1_ n2_ n3_ n4_ n5_ n6_; clear hb hbox hg; have hnb32 := NB176_170.out; have hnc32 := NB170_176.out; have hcz33_0 : w31.cell? ⟨gb176, 0, none⟩ = some (.int .i64 0) := (blk_cell BK176.out 0).trans rfl; have hcz33_1 : w31.cell? ⟨gb176, 1, none⟩ = some (.int .i64 0) := (blk_cell BK176.out 1).trans rfl; have hcz33_2 : w31.cell? ⟨gb176, 2, none⟩ = some (.int .i64 0) := (blk_cell BK176.out 2).trans rfl; have hcz33_3 : w31.cell? ⟨gb176, 3, none⟩ = some (.int .i64 0) := (blk_cell BK176.out 3).trans rfl; have hcz33_4 : w31.cell? ⟨gb176, 4, none⟩ = some (.int .i64 0) := (blk_cell BK176.out 4).trans rfl; have hcz33_5 : w31.cell? ⟨gb176, 5, none⟩ = some (.int .i64 0) := (blk_cell BK176.out 5).trans rfl; have hcz33_6 : w31.cell? ⟨gb176, 6, none⟩ = some (.int .i64 0) := (blk_cell BK176.out 6).trans rfl; have hcz33_7 : w31.cell? ⟨gb176, 7, none⟩ = some (.slice none 0 0) := (blk_cell BK176.out 7).trans rfl; have hfz33_0 := blk_frozen BK176.out 0; have hfz33_1 := blk_frozen BK176.out 1; have hfz33_2 := blk_frozen BK176.out 2; have hfz33_3 := blk_frozen BK176.out 3; have hfz33_4 := blk_frozen BK176.out 4; have hfz33_5 := blk_frozen BK176.out 5; have hfz33_6 := blk_frozen BK176.out 6; have hfz33_7 := blk_frozen BK176.out 7) | ((with_reducible refine gate_dst (N := 103) rfl ?_); refine Kd.R_make Kd.bool _ 4 rfl (N := 103) rfl 139 _ _ rfl 256 rfl rfl Try.underlying139 (.bool false) 1 info4 rfl (by decide) (by omega) false (ok := fun _ => True) (okp := fun _ => True) rfl (fun _ hk => hk) trivial (by omega) (by omega) (Below.refl _ _) (Nat.le_refl _) ?_; intro v178 w34 ho35 hb hg_ hnew_; clear hg_ hnew_; (first | rw [← Ny177.out] at ho35 | (simp only [Int.reduceToNat] at ho35; rw [← Ny177.out] at ho35)); have n0_ := Aside0.mk (Kd.R_lower ho35 (below_size (by repeat (first | (with_reducible first | exact HB.out | apply below_alloc | apply pw_below_drewN | apply below_drew1 | refine below_set ?_ GE170.out | refine below_set ?_ GE176.out) | exact HB.out)))); have n1_ := Aside0.mk (blk_below (g := gb170) (o := .cells #[.int .i64 0, .int .i64 0, .int .i64 0, .int .i64 0, .int .i64 0, .int .i64 0, .int .i64 0, .slice none 0 0] 50 (0, 0)) (by (with_reducible repeat (first | refine blk_drewN ?_ _ | refine blk_drew ?_ | refine blk_alloc ?_ _)); refine blk_far ?_ NB170_176.out _; (with_reducible repeat (first | refine blk_drewN ?_ _ | refine blk_drew ?_ | refine blk_alloc ?_ _)); refine blk_far ?_ NB170_176.out _; (with_reducible repeat (first | refine blk_drewN ?_ _ | refine blk_drew ?_ | refine blk_alloc ?_ _)); refine blk_far ?_ NB170_176.out _; (with_reducible repeat (first | refine blk_drewN ?_ _ | refine blk_drew ?_ | refine blk_alloc ?_ _)); refine blk_far ?_ NB170_176.out _; (with_reducible repeat (first | refine blk_drewN ?_ _ | refine blk_drew ?_ | refine blk_alloc ?_ _)); refine blk_far ?_ NB170_176.out _; (with_reducible repeat (first | refine blk_drewN ?_ _ | refine blk_drew ?_ | refine blk_alloc ?_ _)); refine blk_far ?_ NB170_176.out _; (with_reducible repeat (first | refine blk_drewN ?_ _ | refine blk_drew ?_ | refine blk_alloc ?_ _)); refine blk_far ?_ NB170_176.out _; (with_reducible repeat (first | refine blk_drewN ?_ _ | refine blk_drew ?_ | refine blk_alloc ?_ _)); refine blk_far ?_ NB170_176.out _; (with_reducible repeat (first | refine blk_drewN ?_ _ | refine blk_drew ?_ | refine blk_alloc ?_ _)); exact BK170.out) hb); have n2_ := Aside0.mk (blk_below (g := gb176) (o := .cells #[.int .i64 x9_27, .int .i64 x10_27, .int .i64 (wrap64 ((wrap64 (x11_27 - x9_27)) + 1)), .int .i64 (wrap64 ((wrap64 (x12_27 - x10_27)) + 1)), .int .i64 0, .int .i64 0, .int .i64 (-1), .slice none 0 0] 50 (0, 0)) (by (with_reducible repeat (first | refine blk_drewN ?_ _ | refine blk_drew ?_ | refine blk_alloc ?_ _)); refine blk_put (cs := #[.int .i64 x9_27, .int .i64 x10_27, .int .i64 (wrap64 ((wrap64 (x11_27 - x9_27)) + 1)), .int .i64 (wrap64 ((wrap64 (x12_27 - x10_27)) + 1)), .int .i64 0, .int .i64 0, .int .i64 (-1), .slice none 0 0]) ?_ 7 _ rfl; (with_reducible repeat (first | refine blk_drewN ?_ _ | refine blk_drew ?_ | refine blk_alloc ?_ _)); refine blk_put (cs := #[.int .i64 x9_27, .int .i64 x10_27, .int .i64 (wrap64 ((wrap64 (x11_27 - x9_27)) + 1)), .int .i64 (wrap64 ((wrap64 (x12_27 - x10_27)) + 1)), .int .i64 0, .int .i64 0, .int .i64 0, .slice none 0 0]) ?_ 6 _ rfl; (with_reducible repeat (first | refine blk_drewN ?_ _ | refine blk_drew ?_ | refine blk_alloc ?_ _)); refine blk_put (cs := #[.int .i64 x9_27, .int .i64 x10_27, .int .i64 (wrap64 ((wrap64 (x11_27 - x9_27)) + 1)), .int .i64 (wrap64 ((wrap64 (x12_27 - x10_27)) + 1)), .int .i64 0, .int .i64 0, .int .i64 0, .slice none 0 0]) ?_ 5 _ rfl; (with_reducible repeat (first | refine blk_drewN ?_ _ | refine blk_drew ?_ | refine blk_alloc ?_ _)); refine blk_put (cs := #[.int .i64 x9_27, .int .i64 x10_27, .int .i64 (wrap64 ((wrap64 (x11_27 - x9_27)) + 1)), .int .i64 (wrap64 ((wrap64 (x12_27 - x10_27)) + 1)), .int .i64 0, .int .i64 0, .int .i64 0, .slice none 0 0]) ?_ 4 _ rfl; (with_reducible repeat (first | refine blk_drewN ?_ _ | refine blk_drew ?_ | refine blk_alloc ?_ _)); refine blk_put (cs := #[.int .i64 x9_27, .int .i64 x10_27, .int .i64 (wrap64 ((wrap64 (x11_27 - x9_27)) + 1)), .int .i64 0, .int .i64 0, .int .i64 0, .int .i64 0, .slice none 0 0]) ?_ 3 _ rfl; (with_reducible repeat (first | refine blk_drewN ?_ _ | refine blk_drew ?_ | refine blk_alloc ?_ _)); refine blk_put (cs := #[.int .i64 x9_27, .int .i64 x10_27, .int .i64 0, .int .i64 0, .int .i64 0, .int .i64 0, .int .i64 0, .slice none 0 0]) ?_ 2 _ rfl; (with_reducible repeat (first | refine blk_drewN ?_ _ | refine blk_drew ?_ | refine blk_alloc ?_ _)); refine blk_put (cs := #[.int .i64 x9_27, .int .i64 0, .int .i64 0, .int .i64 0, .int .i64 0, .int .i64 0, .int .i64 0, .slice none 0 0]) ?_ 1 _ rfl; (with_reducible repeat (first | refine blk_drewN ?_ _ | refine blk_drew ?_ | refine blk_alloc ?_ _)); refine blk_put (cs := #[.int .i64 0, .int .i64 0, .int .i64 0, .int .i64 0, .int .i64 0, .int .i64 0, .int .i64 0, .slice none 0 0]) ?_ 0 _ rfl; (with_reducible repeat (first | refine blk_drewN ?_ _ | refine blk_drew ?_ | refine blk_alloc ?_ _)); exact BK176.out) hb); have n3_ := Aside0.mk (below_step (by repeat (first | (with_reducible first | exact HB.out | apply below_alloc | apply pw_below_drewN | apply below_drew1 | refine below_set ?_ GE170.out | refine below_set ?_ GE176.out) | exact HB.out)) hb); clear BK170; clear BK176; clear HB; have HO179 := n0_; have BK170 := n1_; have BK176 := n2_; have HB := n3_; clear n0_ n1_ n2_ n3_; clear hb ho35)); try go_quiet (first | ((with_reducible refine gate_dst (N := 103) rfl ?_); refine Kd.R_make Kd.bool _ 4 rfl (N := 103) rfl 139 _ _ rfl 256 rfl rfl Try.underlying139 (.bool false) 1 info4 rfl (by decide) (by omega) false (ok := fun _ => True) (okp := fun _ => True) rfl (fun _ hk => hk) trivial (by omega) (by omega) (Below.refl _ _) (Nat.le_refl _) ?_; intro v178 w34 ho35 hb hg_ hnew_; clear hg_ hnew_; (first | rw [← Ny177.out] at ho35 | (simp only [Int.reduceToNat] at ho35; rw [← Ny177.out] at ho35)); have n0_ := Aside0.mk (Kd.R_lower ho35 (below_size (by repeat (first | (with_reducible first | exact HB.out | apply below_alloc | apply pw_below_drewN | apply below_drew1 | refine below_set ?_ GE170.out | refine below_set ?_ GE176.out) | exact HB.out)))); have n1_ := Aside0.mk (blk_below (g := gb170) (o := .cells #[.int .i64 0, .int .i64 0, .int .i64 0, .int .i64 0, .int .i64 0, .int .i64 0, .int .i64 0, .slice none 0 0] 50 (0, 0)) (by (with_reducible repeat (first | refine blk_drewN ?_ _ | refine blk_drew ?_ | refine blk_alloc ?_ _)); refine blk_far ?_ NB170_176.out _; (with_reducible repeat (first | refine blk_drewN ?_ _ | refine blk_drew ?_ | refine blk_alloc ?_ _)); refine blk_far ?_ NB170_176.out _; (with_reducible repeat (first | refine blk_drewN ?_ _ | refine blk_drew ?_ | refine blk_alloc ?_ _)); refine blk_far ?_ NB170_176.out _; (with_reducible repeat (first | refine blk_drewN ?_ _ | refine blk_drew ?_ | refine blk_alloc ?_ _)); refine blk_far ?_ NB170_176.out _; (with_reducible repeat (first | refine blk_drewN ?_ _ | refine blk_drew ?_ | refine blk_alloc ?_ _)); refine blk_far ?_ NB170_176.out _; (with_reducible repeat (first | refine blk_drewN ?_ _ | refine blk_drew ?_ | refine blk_alloc ?_ _)); refine blk_far ?_ NB170_176.out _; (with_reducible repeat (first | refine blk_drewN ?_ _ | refine blk_drew ?_ | refine blk_alloc ?_ _)); refine blk_far ?_ NB170_176.out _; (with_reducible repeat (first | refine blk_drewN ?_ _ | refine blk_drew ?_ | refine blk_alloc ?_ _)); refine blk_far ?_ NB170_176.out _; (with_reducible repeat (first | refine blk_drewN ?_ _ | refine blk_drew ?_ | refine blk_alloc ?_ _)); exact BK170.out) hb); have n2_ := Aside0.mk (blk_below (g := gb176) (o := .cells #[.int .i64 x9_27, .int .i64 x10_27, .int .i64 (wrap64 ((wrap64 (x11_27 - x9_27)) + 1)), .int .i64 (wrap64 ((wrap64 (x12_27 - x10_27)) + 1)), .int .i64 0, .int .i64 0, .int .i64 (-1), .slice none 0 0] 50 (0, 0)) (by (with_reducible repeat (first | refine blk_drewN ?_ _ | refine blk_drew ?_ | refine blk_alloc ?_ _)); refine blk_put (cs := #[.int .i64 x9_27, .int .i64 x10_27, .int .i64 (wrap64 ((wrap64 (x11_27 - x9_27)) + 1)), .int .i64 (wrap64 ((wrap64 (x12_27 - x10_27)) + 1)), .int .i64 0, .int .i64 0, .int .i64 (-1), .slice none 0 0]) ?_ 7 _ rfl; (with_reducible repeat (first | refine blk_drewN ?_ _ | refine blk_drew ?_ | refine blk_alloc ?_ _)); refine blk_put (cs := #[.int .i64 x9_27, .int .i64 x10_27, .int .i64 (wrap64 ((wrap64 (x11_27 - x9_27)) + 1)), .int .i64 (wrap64 ((wrap64 (x12_27 - x10_27)) + 1)), .int .i64 0, .int .i64 0, .int .i64 0, .slice none 0 0]) ?_ 6 _ rfl; (with_reducible repeat (first | refine blk_drewN ?_ _ | refine blk_drew ?_ | refine blk_alloc ?_ _)); refine blk_put (cs := #[.int .i64 x9_27, .int .i64 x10_27, .int .i64 (wrap64 ((wrap64 (x11_27 - x9_27)) + 1)), .int .i64 (wrap64 ((wrap64 (x12_27 - x10_27)) + 1)), .int .i64 0, .int .i64 0, .int .i64 0, .slice none 0 0]) ?_ 5 _ rfl; (with_reducible repeat (first | refine blk_drewN ?_ _ | refine blk_drew ?_ | refine blk_alloc ?_ _)); refine blk_put (cs := #[.int .i64 x9_27, .int .i64 x10_27, .int .i64 (wrap64 ((wrap64 (x11_27 - x9_27)) + 1)), .int .i64 (wrap64 ((wrap64 (x12_27 - x10_27)) + 1)), .int .i64 0, .int .i64 0, .int .i64 0, .slice none 0 0]) ?_ 4 _ rfl; (with_reducible repeat (first | refine blk_drewN ?_ _ | refine blk_drew ?_ | refine blk_alloc ?_ _)); refine blk_put (cs := #[.int .i64 x9_27, .int .i64 x10_27, .int .i64 (wrap64 ((wrap64 (x11_27 - x9_27)) + 1)), .int .i64 0, .int .i64 0, .int .i64 0, .int .i64 0, .slice none 0 0]) ?_ 3 _ rfl; (with_reducible repeat (first | refine blk_drewN ?_ _ | refine blk_drew ?_ | refine blk_alloc ?_ _)); refine blk_put (cs := #[.int .i64 x9_27, .int .i64 x10_27, .int .i64 0, .int .i64 0, .int .i64 0, .int .i64 0, .int .i64 0, .slice none 0 0]) ?_ 2 _ rfl; (with_reducible repeat (first | refine blk_drewN ?_ _ | refine blk_drew ?_ | refine blk_alloc ?_ _)); refine blk_put (cs := #[.int .i64 x9_27, .int .i64 0, .int .i64 0, .int .i64 0, .int .i64 0, .int .i64 0, .int .i64 0, .slice none 0 0]) ?_ 1 _ rfl; (with_reducible repeat (first | refine blk_drewN ?_ _ | refine blk_drew ?_ | refine blk_alloc ?_ _)); refine blk_put (cs := #[.int .i64 0, .int .i64 0, .int .i64 0, .int .i64 0, .int .i64 0, .int .i64 0, .int .i64 0, .slice none 0 0]) ?_ 0 _ rfl; (with_reducible repeat (first | refine blk_drewN ?_ _ | refine blk_drew ?_ | refine blk_alloc ?_ _)); exact BK176.out) hb); have n3_ := Aside0.mk (below_step (by repeat (first | (with_reducible first | exact HB.out | apply below_alloc | apply pw_below_drewN | apply below_drew1 | refine below_set ?_ GE170.out | refine below_set ?_ GE176.out) | exact HB.out)) hb); clear BK170; clear BK176; clear HB; have HO179 := n0_; have BK170 := n1_; have BK176 := n2_; have HB := n3_; clear n0_ n1_ n2_ n3_; clear hb ho35)))
              go_loopg [18, 19] kj27 (fun kq v18 v19 w' => ∃ (x17_4 : List Bool) (x18_4 : Bool) (x19_4 : Int) (x177007_4 : List Int) (u177007 : Value), v18 = .bool x18_4 ∧ v19 = .int .i64 x19_4 ∧ Aside0 (spec_Between.l1 kq a0 l3 x9_27 x11_27 x12_27 x17_4 x18_4 x19_4 x9_27 x10_27 (wrap64 ((wrap64 (x11_27 - x9_27)) + 1)) (wrap64 ((wrap64 (x12_27 - x10_27)) + 1)) 0 0 (-1) x177007_4 = some (r1, r2, r3, r4, r5, r6, r7, r8)) ∧ Aside0 (kq ≤ kj27) ∧ Aside0 (Kd.R Kd.bool 4 w' w.heap.size (fun _ => True) v178 x17_4) ∧ Aside0 (Kd.R (Kd.int .i64) 3 w' w.heap.size (fun _ => True) u177007 x177007_4) ∧ Aside0 (w'.heap[gb170]? = some (.cells #[.int .i64 0, .int .i64 0, .int .i64 0, .int .i64 0, .int .i64 0, .int .i64 0, .int .i64 0, (.slice none 0 0)] 50 (0, 0))) ∧ Aside0 (w'.heap[gb176]? = some (.cells #[.int .i64 x9_27, .int .i64 x10_27, .int .i64 (wrap64 ((wrap64 (x11_27 - x9_27)) + 1)), .int .i64 (wrap64 ((wrap64 (x12_27 - x10_27)) + 1)), .int .i64 0, .int .i64 0, .int .i64 (-1), u177007] 50 (0, 0))) ∧ Aside0 (Below w.heap.size w w'))
              case atStart => exact ⟨(y177), (false), (x10_27), (([] : List Int)), (.slice none 0 0), (by first | rfl | (simp; done) | (simp [*]; done)), (by first | rfl | (simp; done) | (simp [*]; done)), H', ⟨Nat.le_refl _⟩, ⟨by (with_reducible repeat (first | apply Kd.R_alloc | apply Kd.R_drewN | apply Kd.R_drew)); exact HO179.out⟩, ⟨by first | exact Kd.R_nil _ _ _ _ _ | exact Kd.N_nil _ _ _ _ _ | exact Kd.V_nil _ _ _ _ _ | exact Kd.Q_nil _ _ _ _ _ | exact Kd.S_nil _ _ _ _ _⟩, ⟨by (with_reducible repeat (first | refine blk_drewN ?_ _ | refine blk_drew ?_ | refine blk_alloc ?_ _)); exact BK170.out⟩, ⟨by (with_reducible repeat (first | refine blk_drewN ?_ _ | refine blk_drew ?_ | refine blk_alloc ?_ _)); exact BK176.out⟩, ⟨by repeat (first | (with_reducible first | exact HB.out | apply below_alloc | apply pw_below_drewN | apply below_drew1 | refine below_set ?_ GE170.out | refine below_set ?_ GE176.out) | exact HB.out)⟩⟩
              case round =>
                clear H'
                try clear c1
                try clear p1
                try clear q1
                try clear hx1
                try clear c2
                try clear p2
                try clear c3
                try clear p6
                try clear c8
                try clear c9
                try clear c9b0
                try clear c11
                try clear c13
                try clear c15
                try clear c15b0
                try clear c16
                try clear c16b0
                try clear c17
                try clear c17b0
                try clear p17
                try clear q17
                try clear hx17
                try clear c18
                try clear c18b0
                try clear c19
                try clear c19b0
                try clear c19b1
                try clear c20
                try clear c20b0
                try clear c20b1
                try clear c22
                try clear c22b0
                try clear c24
                try clear c24b0
                try clear c25
                try clear c25b0
                try clear c26
                try clear c26b0
                try clear c27
                try clear c27b0
                try clear c29
                try clear c29b0
                try clear c30
                try clear c30b0
                try clear c30b1
                try clear c32
                try clear hcz14_0
                try clear hcz14_1
                try clear hcz14_2
                try clear hcz14_3
                try clear hcz14_4
                try clear hcz14_5
                try clear hcz14_6
                try clear hcz14_7
                try clear hcz33_0
                try clear hcz33_1
                try clear hcz33_2
                try clear hcz33_3
                try clear hcz33_4
                try clear hcz33_5
                try clear hcz33_6
                try clear hcz33_7
                try clear hfz14_0
                try clear hfz14_1
                try clear hfz14_2
                try clear hfz14_3
                try clear hfz14_4
                try clear hfz14_5
                try clear hfz14_6
                try clear hfz14_7
                try clear hfz33_0
                try clear hfz33_1
                try clear hfz33_2
                try clear hfz33_3
                try clear hfz33_4
                try clear hfz33_5
                try clear hfz33_6
                try clear hfz33_7
                try clear hx174_0
                try clear hx175_0
                try clear p1
                try clear p17
                try clear p174
                try clear p175
                try clear p2
                try clear p6
                try clear q1
                try clear q17
                try clear q174
                try clear q175
                obtain ⟨x17_4, x18_4, x19_4, x177007_4, u177007, rfl, rfl, HA, HK4, HO_17, HO_177007, BK170, BK176, HB⟩ := hrel
                cases gk with
                | zero => exact absurd HA.out (by simp [spec_Between.l1])
                | succ k4 =>
                  have H := HA.out
                  clear HA
                  simp only [spec_Between.l1] at H
                  by_cases c36 : x19_4 ≤ x12_27
                  · rw [if_pos c36] at H
                    have c36b0 : decide (x19_4 ≤ x12_27) = true := decide_eq_true c36
                    clear c36
                    have H' := Aside0.mk H
                    clear H
                    go_wp2
                    repeat (go_quiet (fail); try go_wp2)
                    go_loopg [18, 20] k4 (fun kq v18 v20 w' => ∃ (x17_5 : List Bool) (x18_5 : Bool) (x20_5 : Int) (x177007_5 : List Int) (u177007 : Value), v18 = .bool x18_5 ∧ v20 = .int .i64 x20_5 ∧ Aside0 (spec_Between.l2 kq a0 l3 x9_27 x11_27 x12_27 x17_5 x18_5 x19_4 x20_5 x9_27 x10_27 (wrap64 ((wrap64 (x11_27 - x9_27)) + 1)) (wrap64 ((wrap64 (x12_27 - x10_27)) + 1)) 0 0 (-1) x177007_5 = some (r1, r2, r3, r4, r5, r6, r7, r8)) ∧ Aside0 (kq ≤ k4) ∧ Aside0 (Kd.R Kd.bool 4 w' w.heap.size (fun _ => True) v178 x17_5) ∧ Aside0 (Kd.R (Kd.int .i64) 3 w' w.heap.size (fun _ => True) u177007 x177007_5) ∧ Aside0 (w'.heap[gb170]? = some (.cells #[.int .i64 0, .int .i64 0, .int .i64 0, .int .i64 0, .int .i64 0, .int .i64 0, .int .i64 0, (.slice none 0 0)] 50 (0, 0))) ∧ Aside0 (w'.heap[gb176]? = some (.cells #[.int .i64 x9_27, .int .i64 x10_27, .int .i64 (wrap64 ((wrap64 (x11_27 - x9_27)) + 1)), .int .i64 (wrap64 ((wrap64 (x12_27 - x10_27)) + 1)), .int .i64 0, .int .i64 0, .int .i64 (-1), u177007] 50 (0, 0))) ∧ Aside0 (Below w.heap.size w w'))
                    case atStart => exact ⟨(x17_4), (x18_4), (x9_27), (x177007_4), (u177007), (by first | rfl | (simp; done) | (simp [*]; done)), (by first | rfl | (simp; done) | (simp [*]; done)), H', ⟨Nat.le_refl _⟩, ⟨by (with_reducible repeat (first | apply Kd.R_alloc | apply Kd.R_drewN | apply Kd.R_drew)); exact HO_17.out⟩, ⟨by (with_reducible repeat (first | apply Kd.R_alloc | apply Kd.R_drewN | apply Kd.R_drew)); exact HO_177007.out⟩, ⟨by (with_reducible repeat (first | refine blk_drewN ?_ _ | refine blk_drew ?_ | refine blk_alloc ?_ _)); exact BK170.out⟩, ⟨by (with_reducible repeat (first | refine blk_drewN ?_ _ | refine blk_drew ?_ | refine blk_alloc ?_ _)); exact BK176.out⟩, ⟨by repeat (first | (with_reducible first | exact HB.out | apply below_alloc | apply pw_below_drewN | apply below_drew1 | refine below_set ?_ GE170.out | refine below_set ?_ GE176.out) | exact HB.out)⟩⟩
                    case round =>
                      clear H'
                      try clear c1
                      try clear p1
                      try clear q1
                      try clear hx1
                      try clear c2
                      try clear p2
                      try clear c3
                      try clear p6
                      try clear c8
                      try clear c9
                      try clear c9b0
                      try clear c11
                      try clear c13
                      try clear c15
                      try clear c15b0
                      try clear c16
                      try clear c16b0
                      try clear c17
                      try clear c17b0
                      try clear p17
                      try clear q17
                      try clear hx17
                      try clear c18
                      try clear c18b0
                      try clear c19
                      try clear c19b0
                      try clear c19b1
                      try clear c20
                      try clear c20b0
                      try clear c20b1
                      try clear c22
                      try clear c22b0
                      try clear c24
                      try clear c24b0
                      try clear c25
                      try clear c25b0
                      try clear c26
                      try clear c26b0
                      try clear c27
                      try clear c27b0
                      try clear c29
                      try clear c29b0
                      try clear c30
                      try clear c30b0
                      try clear c30b1
                      try clear c32
                      try clear c36
                      try clear c36b0
                      try clear hcz14_0
                      try clear hcz14_1
                      try clear hcz14_2
                      try clear hcz14_3
                      try clear hcz14_4
                      try clear hcz14_5
                      try clear hcz14_6
                      try clear hcz14_7
                      try clear hcz33_0
                      try clear hcz33_1
                      try clear hcz33_2
                      try clear hcz33_3
                      try clear hcz33_4
                      try clear hcz33_5
                      try clear hcz33_6
                      try clear hcz33_7
                      try clear hfz14_0
                      try clear hfz14_1
                      try clear hfz14_2
                      try clear hfz14_3
                      try clear hfz14_4
                      try clear hfz14_5
                      try clear hfz14_6
                      try clear hfz14_7
                      try clear hfz33_0
                      try clear hfz33_1
                      try clear hfz33_2
                      try clear hfz33_3
                      try clear hfz33_4
                      try clear hfz33_5
                      try clear hfz33_6
                      try clear hfz33_7
                      try clear hx174_0
                      try clear hx175_0
                      try clear p1
                      try clear p17
                      try clear p174
                      try clear p175
                      try clear p2
                      try clear p6
                      try clear q1
                      try clear q17
                      try clear q174
                      try clear q175
                      obtain ⟨x17_5, x18_5, x20_5, x177007_5, u177007, rfl, rfl, HA, HK5, HO_17, HO_177007, BK170, BK176, HB⟩ := hrel
                      cases gk with
                      | zero => exact absurd HA.out (by simp [spec_Between.l2])
                      | succ k5 =>
                        have H := HA.out
                        clear HA
                        simp only [spec_Between.l2] at H
                        by_cases c37 : x20_5 ≤ x11_27
                        rotate_left
                        · rw [if_neg c37] at H
                          have c37b0 : decide (x20_5 ≤ x11_27) = false := decide_eq_false c37
                          clear c37
                          have H' := Aside0.mk H
                          clear H
                          go_wp2
                          repeat (go_quiet (fail); try go_wp2)
                          go_roundg k5
                          case measure => have := HJ4.out; have := HK2.out; have := HJ27.out; have := HK4.out; have := HK5.out; omega
                          case rel => exact ⟨(x17_5), (x18_5), (wrap64 (x19_4 + 1)), (x177007_5), (u177007), (by first | rfl | (simp; done) | (simp [*]; done)), (by first | rfl | (simp; done) | (simp [*]; done)), H', ⟨by have := HJ4.out; have := HK2.out; have := HJ27.out; have := HK4.out; have := HK5.out; omega⟩, ⟨by (with_reducible repeat (first | apply Kd.R_alloc | apply Kd.R_drewN | apply Kd.R_drew)); exact HO_17.out⟩, ⟨by (with_reducible repeat (first | apply Kd.R_alloc | apply Kd.R_drewN | apply Kd.R_drew)); exact HO_177007.out⟩, ⟨by (with_reducible repeat (first | refine blk_drewN ?_ _ | refine blk_drew ?_ | refine blk_alloc ?_ _)); exact BK170.out⟩, ⟨by (with_reducible repeat (first | refine blk_drewN ?_ _ | refine blk_drew ?_ | refine blk_alloc ?_ _)); exact BK176.out⟩, ⟨by repeat (first | (with_reducible first | exact HB.out | apply below_alloc | apply pw_below_drewN | apply below_drew1 | refine below_set ?_ GE170.out | refine below_set ?_ GE176.out) | exact HB.out)⟩⟩
                        rw [if_pos c37] at H
                        have c37b0 : decide (x20_5 ≤ x11_27) = true := decide_eq_true c37
                        clear c37
                        obtain ⟨ji38, hji38⟩ : ∃ j_ : Int, (wrap64 ((wrap64 (x19_4 * a0)) + x20_5)) = j_ := ⟨_, rfl⟩
                        replace H : (if 0 ≤ (ji38) then (if (ji38) < (l3.length : Int) then (if (rd l3 (ji38)) < 0 then (if x177007_5.length < 17592186044416 then (spec_Between.l2 k5 a0 l3 x9_27 x11_27 x12_27 x17_5 true x19_4 (wrap64 (x20_5 + 1)) x9_27 x10_27 (wrap64 ((wrap64 (x11_27 - x9_27)) + 1)) (wrap64 ((wrap64 (x12_27 - x10_27)) + 1)) 0 0 (-1) (x177007_5 ++ [rd l3 (ji38)])) else (none)) else (if 0 ≤ (rd l3 (ji38)) then (if (rd l3 (ji38)) < (x17_5.length : Int) then (if x177007_5.length < 17592186044416 then (spec_Between.l2 k5 a0 l3 x9_27 x11_27 x12_27 (x17_5.set ((rd l3 (ji38)) : Int).toNat true) x18_5 x19_4 (wrap64 (x20_5 + 1)) x9_27 x10_27 (wrap64 ((wrap64 (x11_27 - x9_27)) + 1)) (wrap64 ((wrap64 (x12_27 - x10_27)) + 1)) 0 0 (-1) (x177007_5 ++ [rd l3 (ji38)])) else (none)) else (none)) else (none))) else (none)) else (none)) = some (r1, r2, r3, r4, r5, r6, r7, r8) := by first | (rw [hji38] at H; exact H) | (simp only [hji38] at H ⊢; exact H)
                        have hji38w : (IntKind.i64.wrap ((wrap64 (x19_4 * a0)) + x20_5)) = ji38 := (i64_w _).trans hji38
                        by_cases c39 : 0 ≤ (ji38)
                        rotate_left
                        · rw [if_neg c39] at H
                          exact absurd H (by simp)
                        rw [if_pos c39] at H
                        have c39b0 : decide (0 ≤ (ji38)) = true := decide_eq_true c39
                        clear c39
                        by_cases c40 : (ji38) < (l3.length : Int)
                        rotate_left
                        · rw [if_neg c40] at H
                          exact absurd H (by simp)
                        rw [if_pos c40] at H
                        have c40b0 : decide ((ji38) < (l3.length : Int)) = true := decide_eq_true c40
                        clear c40
                        by_cases c41 : (rd l3 (ji38)) < 0
                        · rw [if_pos c41] at H
                          have c41b0 : decide ((rd l3 (ji38)) < 0) = true := decide_eq_true c41
                          clear c41
                          by_cases c42 : x177007_5.length < 17592186044416
                          rotate_left
                          · rw [if_neg c42] at H
                            exact absurd H (by simp)
                          rw [if_pos c42] at H
                          have LMc42 := Aside0.mk c42
                          clear c42
                          obtain ⟨y181, hy181⟩ : ∃ y_ : List Int, y_ = (x177007_5 ++ [rd l3 (ji38)]) := ⟨_, rfl⟩
                          replace H : (spec_Between.l2 k5 a0 l3 x9_27 x11_27 x12_27 x17_5 true x19_4 (wrap64 (x20_5 + 1)) x9_27 x10_27 (wrap64 ((wrap64 (x11_27 - x9_27)) + 1)) (wrap64 ((wrap64 (x12_27 - x10_27)) + 1)) 0 0 (-1) y181) = some (r1, r2, r3, r4, r5, r6, r7, r8) := by first | (rw [hy181]; with_reducible exact H) | (have H2_ := (Option.bind_some _ _).symm.trans H; rw [hy181]; with_reducible exact H2_) | (have H2_ := (Option.bind_some _ _).symm.trans H; with_reducible exact H2_) | with_reducible exact H | (rw [hy181]; exact H) | exact H
                          have Ny181 := Aside0.mk hy181
                          clear hy181
                          have H' := Aside0.mk H
                          clear H
                          have p180 : 0 ≤ ((ji38) : Int) := of_decide_eq_true (by first | (with_reducible assumption) | assumption)
                          have q180 : (ji38) < (l3.length : Int) := of_decide_eq_true (by first | (with_reducible assumption) | assumption)
                          obtain ⟨ad180, e180, hx180_0⟩ := Kd.at_int HR3.out (ji38) p180 q180
                          cases e180
                          replace hx180_0 := (HB.out.cell (World.block_lt_of_cell? w _ hx180_0)).trans hx180_0
                          replace p180 := eq_true p180
                          replace q180 := eq_true q180
                          have hnb43 := NB176_170.out
                          have hnc43 := NB170_176.out
                          have hcz44_0 : wr.cell? ⟨gb176, 0, none⟩ = some (.int .i64 x9_27) := (blk_cell BK176.out 0).trans rfl
                          have hcz44_1 : wr.cell? ⟨gb176, 1, none⟩ = some (.int .i64 x10_27) := (blk_cell BK176.out 1).trans rfl
                          have hcz44_2 : wr.cell? ⟨gb176, 2, none⟩ = some (.int .i64 (wrap64 ((wrap64 (x11_27 - x9_27)) + 1))) := (blk_cell BK176.out 2).trans rfl
                          have hcz44_3 : wr.cell? ⟨gb176, 3, none⟩ = some (.int .i64 (wrap64 ((wrap64 (x12_27 - x10_27)) + 1))) := (blk_cell BK176.out 3).trans rfl
                          have hcz44_4 : wr.cell? ⟨gb176, 4, none⟩ = some (.int .i64 0) := (blk_cell BK176.out 4).trans rfl
                          have hcz44_5 : wr.cell? ⟨gb176, 5, none⟩ = some (.int .i64 0) := (blk_cell BK176.out 5).trans rfl
                          have hcz44_6 : wr.cell? ⟨gb176, 6, none⟩ = some (.int .i64 (-1)) := (blk_cell BK176.out 6).trans rfl
                          have hcz44_7 : wr.cell? ⟨gb176, 7, none⟩ = some (u177007) := (blk_cell BK176.out 7).trans rfl
                          have hfz44_0 := blk_frozen BK176.out 0
                          have hfz44_1 := blk_frozen BK176.out 1
                          have hfz44_2 := blk_frozen BK176.out 2
                          have hfz44_3 := blk_frozen BK176.out 3
                          have hfz44_4 := blk_frozen BK176.out 4
                          have hfz44_5 := blk_frozen BK176.out 5
                          have hfz44_6 := blk_frozen BK176.out 6
                          have hfz44_7 := blk_frozen BK176.out 7
                          iterate 3 (try go_wp2_with (first | ((with_reducible refine gate_builtin (b := .append) (xs := #[.tmp 130, .tmp 132]) rfl ?_); at_builtin; refine Kd.R_append (Kd.int .i64) (w0 := w) w.heap.size rfl (.tmp 130) (.tmp 132) 22 3 (.int .i64 0) 8 rfl Try.underlying22 info3 rfl (by decide) (by omega) u177007 x177007_5 (rd l3 (ji38)) [.int .i64 (rd l3 (ji38))] (fun _ => True) (fun _ => False) rfl rfl ?aP (fun _ hk => hk.elim) ?aF ?aO ?aB ?aS ?aL ?_; (case aP => exact rfl); (case aB => exact (by repeat (first | (with_reducible first | exact HB.out | apply below_alloc | apply pw_below_drewN | apply below_drew1 | refine below_set ?_ GE170.out | refine below_set ?_ GE176.out) | exact HB.out))); (case aF => exact (fun _ _ => trivial)); (case aO => exact (by (with_reducible repeat (first | apply Kd.R_alloc | apply Kd.R_drewN | apply Kd.R_drew)); exact HO_177007.out)); (case aS => exact (below_size (by repeat (first | (with_reducible first | exact HB.out | apply below_alloc | apply pw_below_drewN | apply below_drew1 | refine below_set ?_ GE170.out | refine below_set ?_ GE176.out) | exact HB.out)))); (case aL => have := LMc42.out; omega); intro v182 w45 ho hb hg hat; rw [← Ny181.out] at ho; have n0_ := Aside0.mk (Kd.R_over' (by (with_reducible repeat (first | apply Kd.R_alloc | apply Kd.R_drewN | apply Kd.R_drew)); exact HO_17.out) (Kd.R_typed (by (with_reducible repeat (first | apply Kd.R_alloc | apply Kd.R_drewN | apply Kd.R_drew)); exact HO_177007.out)) (by decide) hg); have n1_ := Aside0.mk (blk_grown (g := gb170) (o := .cells #[.int .i64 0, .int .i64 0, .int .i64 0, .int .i64 0, .int .i64 0, .int .i64 0, .int .i64 0, .slice none 0 0] 50 (0, 0)) (by (with_reducible repeat (first | refine blk_drewN ?_ _ | refine blk_drew ?_ | refine blk_alloc ?_ _)); exact BK170.out) hg (Kd.R_ne HO_177007.out BK170.out (by decide))); have n2_ := Aside0.mk (blk_grown (g := gb176) (o := .cells #[.int .i64 x9_27, .int .i64 x10_27, .int .i64 (wrap64 ((wrap64 (x11_27 - x9_27)) + 1)), .int .i64 (wrap64 ((wrap64 (x12_27 - x10_27)) + 1)), .int .i64 0, .int .i64 0, .int .i64 (-1), u177007] 50 (0, 0)) (by (with_reducible repeat (first | refine blk_drewN ?_ _ | refine blk_drew ?_ | refine blk_alloc ?_ _)); exact BK176.out) hg (Kd.R_ne HO_177007.out BK176.out (by decide))); have n3_ := Aside0.mk (hb); have n4_ := Aside0.mk (ho); clear HO_17; clear BK170; clear BK176; clear HB; clear HO_177007; have HO_17 := n0_; have BK170 := n1_; have BK176 := n2_; have HB := n3_; have HO183 := n4_; clear n0_ n1_ n2_ n3_ n4_; clear ho hb hg hat; obtain ⟨Ao46, co46, eo46⟩ := Kd.R_slice HO183.out; subst eo46; have hcz47_0 : w45.cell? ⟨gb176, 0, none⟩ = some (.int .i64 x9_27) := (blk_cell BK176.out 0).trans rfl; have hcz47_1 : w45.cell? ⟨gb176, 1, none⟩ = some (.int .i64 x10_27) := (blk_cell BK176.out 1).trans rfl; have hcz47_2 : w45.cell? ⟨gb176, 2, none⟩ = some (.int .i64 (wrap64 ((wrap64 (x11_27 - x9_27)) + 1))) := (blk_cell BK176.out 2).trans rfl; have hcz47_3 : w45.cell? ⟨gb176, 3, none⟩ = some (.int .i64 (wrap64 ((wrap64 (x12_27 - x10_27)) + 1))) := (blk_cell BK176.out 3).trans rfl; have hcz47_4 : w45.cell? ⟨gb176, 4, none⟩ = some (.int .i64 0) := (blk_cell BK176.out 4).trans rfl; have hcz47_5 : w45.cell? ⟨gb176, 5, none⟩ = some (.int .i64 0) := (blk_cell BK176.out 5).trans rfl; have hcz47_6 : w45.cell? ⟨gb176, 6, none⟩ = some (.int .i64 (-1)) := (blk_cell BK176.out 6).trans rfl; have hcz47_7 : w45.cell? ⟨gb176, 7, none⟩ = some (u177007) := (blk_cell BK176.out 7).trans rfl; have hfz47_0 := blk_frozen BK176.out 0; have hfz47_1 := blk_frozen BK176.out 1; have hfz47_2 := blk_frozen BK176.out 2; have hfz47_3 := blk_frozen BK176.out 3; have hfz47_4 := blk_frozen BK176.out 4; have hfz47_5 := blk_frozen BK176.out 5; have hfz47_6 := blk_frozen BK176.out 6; have hfz47_7 := blk_frozen BK176.out 7)); try go_quiet (first | ((with_reducible refine gate_builtin (b := .append) (xs := #[.tmp 130, .tmp 132]) rfl ?_); at_builtin; refine Kd.R_append (Kd.int .i64) (w0 := w) w.heap.size rfl (.tmp 130) (.tmp 132) 22 3 (.int .i64 0) 8 rfl Try.underlying22 info3 rfl (by decide) (by omega) u177007 x177007_5 (rd l3 (ji38)) [.int .i64 (rd l3 (ji38))] (fun _ => True) (fun _ => False) rfl rfl ?aP (fun _ hk => hk.elim) ?aF ?aO ?aB ?aS ?aL ?_; (case aP => exact rfl); (case aB => exact (by repeat (first | (with_reducible first | exact HB.out | apply below_alloc | apply pw_below_drewN | apply below_drew1 | refine below_set ?_ GE170.out | refine below_set ?_ GE176.out) | exact HB.out))); (case aF => exact (fun _ _ => trivial)); (case aO => exact (by (with_reducible repeat (first | apply Kd.R_alloc | apply Kd.R_drewN | apply Kd.R_drew)); exact HO_177007.out)); (case aS => exact (below_size (by repeat (first | (with_reducible first | exact HB.out | apply below_alloc | apply pw_below_drewN | apply below_drew1 | refine below_set ?_ GE170.out | refine below_set ?_ GE176.out) | exact HB.out)))); (case aL => have := LMc42.out; omega); intro v182 w45 ho hb hg hat; rw [← Ny181.out] at ho; have n0_ := Aside0.mk (Kd.R_over' (by (with_reducible repeat (first | apply Kd.R_alloc | apply Kd.R_drewN | apply Kd.R_drew)); exact HO_17.out) (Kd.R_typed (by (with_reducible repeat (first | apply Kd.R_alloc | apply Kd.R_drewN | apply Kd.R_drew)); exact HO_177007.out)) (by decide) hg); have n1_ := Aside0.mk (blk_grown (g := gb170) (o := .cells #[.int .i64 0, .int .i64 0, .int .i64 0, .int .i64 0, .int .i64 0, .int .i64 0, .int .i64 0, .slice none 0 0] 50 (0, 0)) (by (with_reducible repeat (first | refine blk_drewN ?_ _ | refine blk_drew ?_ | refine blk_alloc ?_ _)); exact BK170.out) hg (Kd.R_ne HO_177007.out BK170.out (by decide))); have n2_ := Aside0.mk (blk_grown (g := gb176) (o := .cells #[.int .i64 x9_27, .int .i64 x10_27, .int .i64 (wrap64 ((wrap64 (x11_27 - x9_27)) + 1)), .int .i64 (wrap64 ((wrap64 (x12_27 - x10_27)) + 1)), .int .i64 0, .int .i64 0, .int .i64 (-1), u177007] 50 (0, 0)) (by (with_reducible repeat (first | refine blk_drewN ?_ _ | refine blk_drew ?_ | refine blk_alloc ?_ _)); exact BK176.out) hg (Kd.R_ne HO_177007.out BK176.out (by decide))); have n3_ := Aside0.mk (hb); have n4_ := Aside0.mk (ho); clear HO_17; clear BK170; clear BK176; clear HB; clear HO_177007; have HO_17 := n0_; have BK170 := n1_; have BK176 := n2_; have HB := n3_; have HO183 := n4_; clear n0_ n1_ n2_ n3_ n4_; clear ho hb hg hat; obtain ⟨Ao46, co46, eo46⟩ := Kd.R_slice HO183.out; subst eo46; have hcz47_0 : w45.cell? ⟨gb176, 0, none⟩ = some (.int .i64 x9_27) := (blk_cell BK176.out 0).trans rfl; have hcz47_1 : w45.cell? ⟨gb176, 1, none⟩ = some (.int .i64 x10_27) := (blk_cell BK176.out 1).trans rfl; have hcz47_2 : w45.cell? ⟨gb176, 2, none⟩ = some (.int .i64 (wrap64 ((wrap64 (x11_27 - x9_27)) + 1))) := (blk_cell BK176.out 2).trans rfl; have hcz47_3 : w45.cell? ⟨gb176, 3, none⟩ = some (.int .i64 (wrap64 ((wrap64 (x12_27 - x10_27)) + 1))) := (blk_cell BK176.out 3).trans rfl; have hcz47_4 : w45.cell? ⟨gb176, 4, none⟩ = some (.int .i64 0) := (blk_cell BK176.out 4).trans rfl; have hcz47_5 : w45.cell? ⟨gb176, 5, none⟩ = some (.int .i64 0) := (blk_cell BK176.out 5).trans rfl; have hcz47_6 : w45.cell? ⟨gb176, 6, none⟩ = some (.int .i64 (-1)) := (blk_cell BK176.out 6).trans rfl; have hcz47_7 : w45.cell? ⟨gb176, 7, none⟩ = some (u177007) := (blk_cell BK176.out 7).trans rfl; have hfz47_0 := blk_frozen BK176.out 0; have hfz47_1 := blk_frozen BK176.out 1; have hfz47_2 := blk_frozen BK176.out 2; have hfz47_3 := blk_frozen BK176.out 3; have hfz47_4 := blk_frozen BK176.out 4; have hfz47_5 := blk_frozen BK176.out 5; have hfz47_6 := blk_frozen BK176.out 6; have hfz47_7 := blk_frozen BK176.out 7)))
                          go_roundg k5
                          case measure => have := HJ4.out; have := HK2.out; have := HJ27.out; have := HK4.out; have := HK5.out; omega
                          case rel => exact ⟨(x17_5), (true), (wrap64 (x20_5 + 1)), (y181), (.slice Ao46 y181.length co46), (by first | rfl | (simp; done) | (simp [*]; done)), (by first | rfl | (simp; done) | (simp [*]; done)), H', ⟨by have := HJ4.out; have := HK2.out; have := HJ27.out; have := HK4.out; have := HK5.out; omega⟩, ⟨by (with_reducible repeat (first | apply Kd.R_alloc | apply Kd.R_drewN | apply Kd.R_drew)); exact Kd.R_mono (Kd.R_far (p := ⟨gb176, 7, none⟩) (Kd.R_types HO_17.out BK176.out (by decide)) (fun _ hk => hk.2) (.slice Ao46 y181.length co46)) (fun _ hk => trivial)⟩, ⟨by (with_reducible repeat (first | apply Kd.R_alloc | apply Kd.R_drewN | apply Kd.R_drew)); exact Kd.R_mono (Kd.R_far (p := ⟨gb176, 7, none⟩) (Kd.R_types HO183.out BK176.out (by decide)) (fun _ hk => hk.2) (.slice Ao46 y181.length co46)) (fun _ hk => trivial)⟩, ⟨by (with_reducible repeat (first | refine blk_drewN ?_ _ | refine blk_drew ?_ | refine blk_alloc ?_ _)); refine blk_far ?_ NB170_176.out _; (with_reducible repeat (first | refine blk_drewN ?_ _ | refine blk_drew ?_ | refine blk_alloc ?_ _)); exact BK170.out⟩, ⟨by (with_reducible repeat (first | refine blk_drewN ?_ _ | refine blk_drew ?_ | refine blk_alloc ?_ _)); refine blk_put (cs := #[.int .i64 x9_27, .int .i64 x10_27, .int .i64 (wrap64 ((wrap64 (x11_27 - x9_27)) + 1)), .int .i64 (wrap64 ((wrap64 (x12_27 - x10_27)) + 1)), .int .i64 0, .int .i64 0, .int .i64 (-1), u177007]) ?_ 7 _ rfl; (with_reducible repeat (first | refine blk_drewN ?_ _ | refine blk_drew ?_ | refine blk_alloc ?_ _)); exact BK176.out⟩, ⟨by repeat (first | (with_reducible first | exact HB.out | apply below_alloc | apply pw_below_drewN | apply below_drew1 | refine below_set ?_ GE170.out | refine below_set ?_ GE176.out) | exact HB.out)⟩⟩
                        rw [if_neg c41] at H
                        have c41b0 : decide ((rd l3 (ji38)) < 0) = false := decide_eq_false c41
                        clear c41
                        by_cases c48 : 0 ≤ (rd l3 (ji38))
                        rotate_left
                        · rw [if_neg c48] at H
                          exact absurd H (by simp)
                        rw [if_pos c48] at H
                        have c48b0 : decide (0 ≤ (rd l3 (ji38))) = true := decide_eq_true c48
                        clear c48
                        by_cases c49 : (rd l3 (ji38)) < (x17_5.length : Int)
                        rotate_left
                        · rw [if_neg c49] at H
                          exact absurd H (by simp)
                        rw [if_pos c49] at H
                        have c49b0 : decide ((rd l3 (ji38)) < (x17_5.length : Int)) = true := decide_eq_true c49
                        clear c49
                        obtain ⟨y184, hy184⟩ : ∃ y_ : List Bool, y_ = (x17_5.set ((rd l3 (ji38)) : Int).toNat true) := ⟨_, rfl⟩
                        replace H : (if x177007_5.length < 17592186044416 then (spec_Between.l2 k5 a0 l3 x9_27 x11_27 x12_27 y184 x18_5 x19_4 (wrap64 (x20_5 + 1)) x9_27 x10_27 (wrap64 ((wrap64 (x11_27 - x9_27)) + 1)) (wrap64 ((wrap64 (x12_27 - x10_27)) + 1)) 0 0 (-1) (x177007_5 ++ [rd l3 (ji38)])) else (none)) = some (r1, r2, r3, r4, r5, r6, r7, r8) := by first | (rw [hy184]; with_reducible exact H) | (have H2_ := (Option.bind_some _ _).symm.trans H; rw [hy184]; with_reducible exact H2_) | (have H2_ := (Option.bind_some _ _).symm.trans H; with_reducible exact H2_) | with_reducible exact H | (rw [hy184]; exact H) | exact H
                        have Ny184 := Aside0.mk hy184
                        clear hy184
                        by_cases c51 : x177007_5.length < 17592186044416
                        rotate_left
                        · rw [if_neg c51] at H
                          exact absurd H (by simp)
                        rw [if_pos c51] at H
                        have LMc51 := Aside0.mk c51
                        clear c51
                        obtain ⟨y185, hy185⟩ : ∃ y_ : List Int, y_ = (x177007_5 ++ [rd l3 (ji38)]) := ⟨_, rfl⟩
                        replace H : (spec_Between.l2 k5 a0 l3 x9_27 x11_27 x12_27 y184 x18_5 x19_4 (wrap64 (x20_5 + 1)) x9_27 x10_27 (wrap64 ((wrap64 (x11_27 - x9_27)) + 1)) (wrap64 ((wrap64 (x12_27 - x10_27)) + 1)) 0 0 (-1) y185) = some (r1, r2, r3, r4, r5, r6, r7, r8) := by first | (rw [hy185]; with_reducible exact H) | (have H2_ := (Option.bind_some _ _).symm.trans H; rw [hy185]; with_reducible exact H2_) | (have H2_ := (Option.bind_some _ _).symm.trans H; with_reducible exact H2_) | with_reducible exact H | (rw [hy185]; exact H) | exact H
                        have Ny185 := Aside0.mk hy185
                        clear hy185
                        have H' := Aside0.mk H
                        clear H
                        have p180 : 0 ≤ ((ji38) : Int) := of_decide_eq_true (by first | (with_reducible assumption) | assumption)
                        have q180 : (ji38) < (l3.length : Int) := of_decide_eq_true (by first | (with_reducible assumption) | assumption)
                        obtain ⟨ad180, e180, hx180_0⟩ := Kd.at_int HR3.out (ji38) p180 q180
                        cases e180
                        replace hx180_0 := (HB.out.cell (World.block_lt_of_cell? w _ hx180_0)).trans hx180_0
                        replace p180 := eq_true p180
                        replace q180 := eq_true q180
                        have p50 : 0 ≤ ((rd l3 (ji38)) : Int) := of_decide_eq_true (by first | (with_reducible assumption) | assumption)
                        have q50 : ((rd l3 (ji38)) : Int) < ((x17_5.length : Int) : Int) := of_decide_eq_true (by first | (with_reducible assumption) | assumption)
                        obtain ⟨go50, co50, eo50, gb50, gl50, cl50, HG50⟩ := Kd.R_form HO_17.out (by omega)
                        (first | cases eo50 | (injection eo50 with ea_ en_ ec_; (first | subst ea_ | (injection ea_ with ea_; subst ea_)); subst ec_; clear en_))
                        have GB50 := Aside0.mk gb50
                        have GG50 := Aside0.mk HG50
                        clear gb50 gl50 HG50
                        obtain ⟨hx50_0, hf50_0⟩ := Kd.R_celln false HO_17.out ((rd l3 (ji38)) : Int) p50 q50
                        replace p50 := eq_true p50
                        replace q50 := eq_true q50
                        have HP52 := Kd.R_putg HO_17.out ((rd l3 (ji38)) : Int) true
                        iterate 3 (try go_wp2_with (first | ((with_reducible refine gate_store (t := 4) (p := 128) rfl ?_); (try (rw [drewN_self wr]; generalize hq_ : World.drewN wr _ = wr; have n0_ := Aside0.mk (Kd.R_at hq_ HO_17.out); have n1_ := Aside0.mk (Kd.R_at hq_ HO_177007.out); have n2_ := Aside0.mk (blk_at hq_ BK170.out); have n3_ := Aside0.mk (blk_at hq_ BK176.out); have n4_ := Aside0.mk (below_at hq_ HB.out); clear hq_ HO_17 HO_177007 BK170 BK176 HB; have HO_17 := n0_; have HO_177007 := n1_; have BK170 := n2_; have BK176 := n3_; have HB := n4_; clear n0_ n1_ n2_ n3_ n4_; (try (have HP52 := Kd.R_putg HO_17.out ((rd l3 (ji38)) : Int) true)))); refine store_event (t := 4) (p := 128) (v := ?vo_w53) (w1 := (wr.setCell ⟨go50, ((rd l3 (ji38)) : Int).toNat, none⟩ (.bool true))) ?hg ?ho ?hn ?hr ?_; (case ho => rfl); (case hg => rfl); (case hn => rfl); (case hr => first | (go_simp; done) | (go_simp; rfl)); intro w53 hw; have hg : wr.grownBy w53 (some go50) := (by rw [hw]; exact HP52.2); have hp_ : Kd.R Kd.bool 4 w53 w.heap.size (fun _ => True) (.slice (some ⟨go50, 0, none⟩) x17_5.length co50) y184 := (by rw [hw, Ny184.out]; exact HP52.1); clear HP52; have n0_ := Aside0.mk (hp_); have n1_ := Aside0.mk (Kd.R_over' (v := (.slice (some ⟨go50, 0, none⟩) x17_5.length co50)) (by (with_reducible repeat (first | apply Kd.R_alloc | apply Kd.R_drewN | apply Kd.R_drew)); exact HO_177007.out) (Kd.R_typed HO_17.out) (by decide) hg); have n2_ := Aside0.mk (blk_grown (g := gb170) (o := .cells #[.int .i64 0, .int .i64 0, .int .i64 0, .int .i64 0, .int .i64 0, .int .i64 0, .int .i64 0, .slice none 0 0] 50 (0, 0)) (by (with_reducible repeat (first | refine blk_drewN ?_ _ | refine blk_drew ?_ | refine blk_alloc ?_ _)); exact BK170.out) hg (Kd.R_ne HO_17.out BK170.out (by decide))); have n3_ := Aside0.mk (blk_grown (g := gb176) (o := .cells #[.int .i64 x9_27, .int .i64 x10_27, .int .i64 (wrap64 ((wrap64 (x11_27 - x9_27)) + 1)), .int .i64 (wrap64 ((wrap64 (x12_27 - x10_27)) + 1)), .int .i64 0, .int .i64 0, .int .i64 (-1), u177007] 50 (0, 0)) (by (with_reducible repeat (first | refine blk_drewN ?_ _ | refine blk_drew ?_ | refine blk_alloc ?_ _)); exact BK176.out) hg (Kd.R_ne HO_17.out BK176.out (by decide))); have n4_ := Aside0.mk ((by rw [hw]; exact below_set (HB.out) GB50.out : Below w.heap.size w w53)); clear HO_17; clear HO_177007; clear BK170; clear BK176; clear HB; have HO_17 := n0_; have HO_177007 := n1_; have BK170 := n2_; have BK176 := n3_; have HB := n4_; clear n0_ n1_ n2_ n3_ n4_; clear hg hw hp_; have hnb54 := NB176_170.out; have hnc54 := NB170_176.out; have hcz55_0 : w53.cell? ⟨gb176, 0, none⟩ = some (.int .i64 x9_27) := (blk_cell BK176.out 0).trans rfl; have hcz55_1 : w53.cell? ⟨gb176, 1, none⟩ = some (.int .i64 x10_27) := (blk_cell BK176.out 1).trans rfl; have hcz55_2 : w53.cell? ⟨gb176, 2, none⟩ = some (.int .i64 (wrap64 ((wrap64 (x11_27 - x9_27)) + 1))) := (blk_cell BK176.out 2).trans rfl; have hcz55_3 : w53.cell? ⟨gb176, 3, none⟩ = some (.int .i64 (wrap64 ((wrap64 (x12_27 - x10_27)) + 1))) := (blk_cell BK176.out 3).trans rfl; have hcz55_4 : w53.cell? ⟨gb176, 4, none⟩ = some (.int .i64 0) := (blk_cell BK176.out 4).trans rfl; have hcz55_5 : w53.cell? ⟨gb176, 5, none⟩ = some (.int .i64 0) := (blk_cell BK176.out 5).trans rfl; have hcz55_6 : w53.cell? ⟨gb176, 6, none⟩ = some (.int .i64 (-1)) := (blk_cell BK176.out 6).trans rfl; have hcz55_7 : w53.cell? ⟨gb176, 7, none⟩ = some (u177007) := (blk_cell BK176.out 7).trans rfl; have hfz55_0 := blk_frozen BK176.out 0; have hfz55_1 := blk_frozen BK176.out 1; have hfz55_2 := blk_frozen BK176.out 2; have hfz55_3 := blk_frozen BK176.out 3; have hfz55_4 := blk_frozen BK176.out 4; have hfz55_5 := blk_frozen BK176.out 5; have hfz55_6 := blk_frozen BK176.out 6; have hfz55_7 := blk_frozen BK176.out 7) | ((with_reducible refine gate_builtin (b := .append) (xs := #[.tmp 130, .tmp 132]) rfl ?_); at_builtin; refine Kd.R_append (Kd.int .i64) (w0 := w) w.heap.size rfl (.tmp 130) (.tmp 132) 22 3 (.int .i64 0) 8 rfl Try.underlying22 info3 rfl (by decide) (by omega) u177007 x177007_5 (rd l3 (ji38)) [.int .i64 (rd l3 (ji38))] (fun _ => True) (fun _ => False) rfl rfl ?aP (fun _ hk => hk.elim) ?aF ?aO ?aB ?aS ?aL ?_; (case aP => exact rfl); (case aB => exact (by repeat (first | (with_reducible first | exact HB.out | apply below_alloc | apply pw_below_drewN | apply below_drew1 | refine below_set ?_ GE170.out | refine below_set ?_ GE176.out) | exact HB.out))); (case aF => exact (fun _ _ => trivial)); (case aO => exact (by (with_reducible repeat (first | apply Kd.R_alloc | apply Kd.R_drewN | apply Kd.R_drew)); exact HO_177007.out)); (case aS => exact (below_size (by repeat (first | (with_reducible first | exact HB.out | apply below_alloc | apply pw_below_drewN | apply below_drew1 | refine below_set ?_ GE170.out | refine below_set ?_ GE176.out) | exact HB.out)))); (case aL => have := LMc51.out; omega); intro v186 w56 ho hb hg hat; rw [← Ny185.out] at ho; have n0_ := Aside0.mk (Kd.R_over' (by (with_reducible repeat (first | apply Kd.R_alloc | apply Kd.R_drewN | apply Kd.R_drew)); exact HO_17.out) (Kd.R_typed (by (with_reducible repeat (first | apply Kd.R_alloc | apply Kd.R_drewN | apply Kd.R_drew)); exact HO_177007.out)) (by decide) hg); have n1_ := Aside0.mk (blk_grown (g := gb170) (o := .cells #[.int .i64 0, .int .i64 0, .int .i64 0, .int .i64 0, .int .i64 0, .int .i64 0, .int .i64 0, .slice none 0 0] 50 (0, 0)) (by (with_reducible repeat (first | refine blk_drewN ?_ _ | refine blk_drew ?_ | refine blk_alloc ?_ _)); exact BK170.out) hg (Kd.R_ne HO_177007.out BK170.out (by decide))); have n2_ := Aside0.mk (blk_grown (g := gb176) (o := .cells #[.int .i64 x9_27, .int .i64 x10_27, .int .i64 (wrap64 ((wrap64 (x11_27 - x9_27)) + 1)), .int .i64 (wrap64 ((wrap64 (x12_27 - x10_27)) + 1)), .int .i64 0, .int .i64 0, .int .i64 (-1), u177007] 50 (0, 0)) (by (with_reducible repeat (first | refine blk_drewN ?_ _ | refine blk_drew ?_ | refine blk_alloc ?_ _)); exact BK176.out) hg (Kd.R_ne HO_177007.out BK176.out (by decide))); have n3_ := Aside0.mk (hb); have n4_ := Aside0.mk (ho); clear HO_17; clear BK170; clear BK176; clear HB; clear HO_177007; have HO_17 := n0_; have BK170 := n1_; have BK176 := n2_; have HB := n3_; have HO187 := n4_; clear n0_ n1_ n2_ n3_ n4_; clear ho hb hg hat; obtain ⟨Ao57, co57, eo57⟩ := Kd.R_slice HO187.out; subst eo57; have hcz58_0 : w56.cell? ⟨gb176, 0, none⟩ = some (.int .i64 x9_27) := (blk_cell BK176.out 0).trans rfl; have hcz58_1 : w56.cell? ⟨gb176, 1, none⟩ = some (.int .i64 x10_27) := (blk_cell BK176.out 1).trans rfl; have hcz58_2 : w56.cell? ⟨gb176, 2, none⟩ = some (.int .i64 (wrap64 ((wrap64 (x11_27 - x9_27)) + 1))) := (blk_cell BK176.out 2).trans rfl; have hcz58_3 : w56.cell? ⟨gb176, 3, none⟩ = some (.int .i64 (wrap64 ((wrap64 (x12_27 - x10_27)) + 1))) := (blk_cell BK176.out 3).trans rfl; have hcz58_4 : w56.cell? ⟨gb176, 4, none⟩ = some (.int .i64 0) := (blk_cell BK176.out 4).trans rfl; have hcz58_5 : w56.cell? ⟨gb176, 5, none⟩ = some (.int .i64 0) := (blk_cell BK176.out 5).trans rfl; have hcz58_6 : w56.cell? ⟨gb176, 6, none⟩ = some (.int .i64 (-1)) := (blk_cell BK176.out 6).trans rfl; have hcz58_7 : w56.cell? ⟨gb176, 7, none⟩ = some (u177007) := (blk_cell BK176.out 7).trans rfl; have hfz58_0 := blk_frozen BK176.out 0; have hfz58_1 := blk_frozen BK176.out 1; have hfz58_2 := blk_frozen BK176.out 2; have hfz58_3 := blk_frozen BK176.out 3; have hfz58_4 := blk_frozen BK176.out 4; have hfz58_5 := blk_frozen BK176.out 5; have hfz58_6 := blk_frozen BK176.out 6; have hfz58_7 := blk_frozen BK176.out 7)); try go_quiet (first | ((with_reducible refine gate_store (t := 4) (p := 128) rfl ?_); (try (rw [drewN_self wr]; generalize hq_ : World.drewN wr _ = wr; have n0_ := Aside0.mk (Kd.R_at hq_ HO_17.out); have n1_ := Aside0.mk (Kd.R_at hq_ HO_177007.out); have n2_ := Aside0.mk (blk_at hq_ BK170.out); have n3_ := Aside0.mk (blk_at hq_ BK176.out); have n4_ := Aside0.mk (below_at hq_ HB.out); clear hq_ HO_17 HO_177007 BK170 BK176 HB; have HO_17 := n0_; have HO_177007 := n1_; have BK170 := n2_; have BK176 := n3_; have HB := n4_; clear n0_ n1_ n2_ n3_ n4_; (try (have HP52 := Kd.R_putg HO_17.out ((rd l3 (ji38)) : Int) true)))); refine store_event (t := 4) (p := 128) (v := ?vo_w53) (w1 := (wr.setCell ⟨go50, ((rd l3 (ji38)) : Int).toNat, none⟩ (.bool true))) ?hg ?ho ?hn ?hr ?_; (case ho => rfl); (case hg => rfl); (case hn => rfl); (case hr => first | (go_simp; done) | (go_simp; rfl)); intro w53 hw; have hg : wr.grownBy w53 (some go50) := (by rw [hw]; exact HP52.2); have hp_ : Kd.R Kd.bool 4 w53 w.heap.size (fun _ => True) (.slice (some ⟨go50, 0, none⟩) x17_5.length co50) y184 := (by rw [hw, Ny184.out]; exact HP52.1); clear HP52; have n0_ := Aside0.mk (hp_); have n1_ := Aside0.mk (Kd.R_over' (v := (.slice (some ⟨go50, 0, none⟩) x17_5.length co50)) (by (with_reducible repeat (first | apply Kd.R_alloc | apply Kd.R_drewN | apply Kd.R_drew)); exact HO_177007.out) (Kd.R_typed HO_17.out) (by decide) hg); have n2_ := Aside0.mk (blk_grown (g := gb170) (o := .cells #[.int .i64 0, .int .i64 0, .int .i64 0, .int .i64 0, .int .i64 0, .int .i64 0, .int .i64 0, .slice none 0 0] 50 (0, 0)) (by (with_reducible repeat (first | refine blk_drewN ?_ _ | refine blk_drew ?_ | refine blk_alloc ?_ _)); exact BK170.out) hg (Kd.R_ne HO_17.out BK170.out (by decide))); have n3_ := Aside0.mk (blk_grown (g := gb176) (o := .cells #[.int .i64 x9_27, .int .i64 x10_27, .int .i64 (wrap64 ((wrap64 (x11_27 - x9_27)) + 1)), .int .i64 (wrap64 ((wrap64 (x12_27 - x10_27)) + 1)), .int .i64 0, .int .i64 0, .int .i64 (-1), u177007] 50 (0, 0)) (by (with_reducible repeat (first | refine blk_drewN ?_ _ | refine blk_drew ?_ | refine blk_alloc ?_ _)); exact BK176.out) hg (Kd.R_ne HO_17.out BK176.out (by decide))); have n4_ := Aside0.mk ((by rw [hw]; exact below_set (HB.out) GB50.out : Below w.heap.size w w53)); clear HO_17; clear HO_177007; clear BK170; clear BK176; clear HB; have HO_17 := n0_; have HO_177007 := n1_; have BK170 := n2_; have BK176 := n3_; have HB := n4_; clear n0_ n1_ n2_ n3_ n4_; clear hg hw hp_; have hnb54 := NB176_170.out; have hnc54 := NB170_176.out; have hcz55_0 : w53.cell? ⟨gb176, 0, none⟩ = some (.int .i64 x9_27) := (blk_cell BK176.out 0).trans rfl; have hcz55_1 : w53.cell? ⟨gb176, 1, none⟩ = some (.int .i64 x10_27) := (blk_cell BK176.out 1).trans rfl; have hcz55_2 : w53.cell? ⟨gb176, 2, none⟩ = some (.int .i64 (wrap64 ((wrap64 (x11_27 - x9_27)) + 1))) := (blk_cell BK176.out 2).trans rfl; have hcz55_3 : w53.cell? ⟨gb176, 3, none⟩ = some (.int .i64 (wrap64 ((wrap64 (x12_27 - x10_27)) + 1))) := (blk_cell BK176.out 3).trans rfl; have hcz55_4 : w53.cell? ⟨gb176, 4, none⟩ = some (.int .i64 0) := (blk_cell BK176.out 4).trans rfl; have hcz55_5 : w53.cell? ⟨gb176, 5, none⟩ = some (.int .i64 0) := (blk_cell BK176.out 5).trans rfl; have hcz55_6 : w53.cell? ⟨gb176, 6, none⟩ = some (.int .i64 (-1)) := (blk_cell BK176.out 6).trans rfl; have hcz55_7 : w53.cell? ⟨gb176, 7, none⟩ = some (u177007) := (blk_cell BK176.out 7).trans rfl; have hfz55_0 := blk_frozen BK176.out 0; have hfz55_1 := blk_frozen BK176.out 1; have hfz55_2 := blk_frozen BK176.out 2; have hfz55_3 := blk_frozen BK176.out 3; have hfz55_4 := blk_frozen BK176.out 4; have hfz55_5 := blk_frozen BK176.out 5; have hfz55_6 := blk_frozen BK176.out 6; have hfz55_7 := blk_frozen BK176.out 7) | ((with_reducible refine gate_builtin (b := .append) (xs := #[.tmp 130, .tmp 132]) rfl ?_); at_builtin; refine Kd.R_append (Kd.int .i64) (w0 := w) w.heap.size rfl (.tmp 130) (.tmp 132) 22 3 (.int .i64 0) 8 rfl Try.underlying22 info3 rfl (by decide) (by omega) u177007 x177007_5 (rd l3 (ji38)) [.int .i64 (rd l3 (ji38))] (fun _ => True) (fun _ => False) rfl rfl ?aP (fun _ hk => hk.elim) ?aF ?aO ?aB ?aS ?aL ?_; (case aP => exact rfl); (case aB => exact (by repeat (first | (with_reducible first | exact HB.out | apply below_alloc | apply pw_below_drewN | apply below_drew1 | refine below_set ?_ GE170.out | refine below_set ?_ GE176.out) | exact HB.out))); (case aF => exact (fun _ _ => trivial)); (case aO => exact (by (with_reducible repeat (first | apply Kd.R_alloc | apply Kd.R_drewN | apply Kd.R_drew)); exact HO_177007.out)); (case aS => exact (below_size (by repeat (first | (with_reducible first | exact HB.out | apply below_alloc | apply pw_below_drewN | apply below_drew1 | refine below_set ?_ GE170.out | refine below_set ?_ GE176.out) | exact HB.out)))); (case aL => have := LMc51.out; omega); intro v186 w56 ho hb hg hat; rw [← Ny185.out] at ho; have n0_ := Aside0.mk (Kd.R_over' (by (with_reducible repeat (first | apply Kd.R_alloc | apply Kd.R_drewN | apply Kd.R_drew)); exact HO_17.out) (Kd.R_typed (by (with_reducible repeat (first | apply Kd.R_alloc | apply Kd.R_drewN | apply Kd.R_drew)); exact HO_177007.out)) (by decide) hg); have n1_ := Aside0.mk (blk_grown (g := gb170) (o := .cells #[.int .i64 0, .int .i64 0, .int .i64 0, .int .i64 0, .int .i64 0, .int .i64 0, .int .i64 0, .slice none 0 0] 50 (0, 0)) (by (with_reducible repeat (first | refine blk_drewN ?_ _ | refine blk_drew ?_ | refine blk_alloc ?_ _)); exact BK170.out) hg (Kd.R_ne HO_177007.out BK170.out (by decide))); have n2_ := Aside0.mk (blk_grown (g := gb176) (o := .cells #[.int .i64 x9_27, .int .i64 x10_27, .int .i64 (wrap64 ((wrap64 (x11_27 - x9_27)) + 1)), .int .i64 (wrap64 ((wrap64 (x12_27 - x10_27)) + 1)), .int .i64 0, .int .i64 0, .int .i64 (-1), u177007] 50 (0, 0)) (by (with_reducible repeat (first | refine blk_drewN ?_ _ | refine blk_drew ?_ | refine blk_alloc ?_ _)); exact BK176.out) hg (Kd.R_ne HO_177007.out BK176.out (by decide))); have n3_ := Aside0.mk (hb); have n4_ := Aside0.mk (ho); clear HO_17; clear BK170; clear BK176; clear HB; clear HO_177007; have HO_17 := n0_; have BK170 := n1_; have BK176 := n2_; have HB := n3_; have HO187 := n4_; clear n0_ n1_ n2_ n3_ n4_; clear ho hb hg hat; obtain ⟨Ao57, co57, eo57⟩ := Kd.R_slice HO187.out; subst eo57; have hcz58_0 : w56.cell? ⟨gb176, 0, none⟩ = some (.int .i64 x9_27) := (blk_cell BK176.out 0).trans rfl; have hcz58_1 : w56.cell? ⟨gb176, 1, none⟩ = some (.int .i64 x10_27) := (blk_cell BK176.out 1).trans rfl; have hcz58_2 : w56.cell? ⟨gb176, 2, none⟩ = some (.int .i64 (wrap64 ((wrap64 (x11_27 - x9_27)) + 1))) := (blk_cell BK176.out 2).trans rfl; have hcz58_3 : w56.cell? ⟨gb176, 3, none⟩ = some (.int .i64 (wrap64 ((wrap64 (x12_27 - x10_27)) + 1))) := (blk_cell BK176.out 3).trans rfl; have hcz58_4 : w56.cell? ⟨gb176, 4, none⟩ = some (.int .i64 0) := (blk_cell BK176.out 4).trans rfl; have hcz58_5 : w56.cell? ⟨gb176, 5, none⟩ = some (.int .i64 0) := (blk_cell BK176.out 5).trans rfl; have hcz58_6 : w56.cell? ⟨gb176, 6, none⟩ = some (.int .i64 (-1)) := (blk_cell BK176.out 6).trans rfl; have hcz58_7 : w56.cell? ⟨gb176, 7, none⟩ = some (u177007) := (blk_cell BK176.out 7).trans rfl; have hfz58_0 := blk_frozen BK176.out 0; have hfz58_1 := blk_frozen BK176.out 1; have hfz58_2 := blk_frozen BK176.out 2; have hfz58_3 := blk_frozen BK176.out 3; have hfz58_4 := blk_frozen BK176.out 4; have hfz58_5 := blk_frozen BK176.out 5; have hfz58_6 := blk_frozen BK176.out 6; have hfz58_7 := blk_frozen BK176.out 7)))
                        go_roundg k5
                        case measure => have := HJ4.out; have := HK2.out; have := HJ27.out; have := HK4.out; have := HK5.out; omega
                        case rel => exact ⟨(y184), (x18_5), (wrap64 (x20_5 + 1)), (y185), (.slice Ao57 y185.length co57), (by first | rfl | (simp; done) | (simp [*]; done)), (by first | rfl | (simp; done) | (simp [*]; done)), H', ⟨by have := HJ4.out; have := HK2.out; have := HJ27.out; have := HK4.out; have := HK5.out; omega⟩, ⟨by (with_reducible repeat (first | apply Kd.R_alloc | apply Kd.R_drewN | apply Kd.R_drew)); exact Kd.R_mono (Kd.R_far (p := ⟨gb176, 7, none⟩) (Kd.R_types HO_17.out BK176.out (by decide)) (fun _ hk => hk.2) (.slice Ao57 y185.length co57)) (fun _ hk => trivial)⟩, ⟨by (with_reducible repeat (first | apply Kd.R_alloc | apply Kd.R_drewN | apply Kd.R_drew)); exact Kd.R_mono (Kd.R_far (p := ⟨gb176, 7, none⟩) (Kd.R_types HO187.out BK176.out (by decide)) (fun _ hk => hk.2) (.slice Ao57 y185.length co57)) (fun _ hk => trivial)⟩, ⟨by (with_reducible repeat (first | refine blk_drewN ?_ _ | refine blk_drew ?_ | refine blk_alloc ?_ _)); refine blk_far ?_ NB170_176.out _; (with_reducible repeat (first | refine blk_drewN ?_ _ | refine blk_drew ?_ | refine blk_alloc ?_ _)); exact BK170.out⟩, ⟨by (with_reducible repeat (first | refine blk_drewN ?_ _ | refine blk_drew ?_ | refine blk_alloc ?_ _)); refine blk_put (cs := #[.int .i64 x9_27, .int .i64 x10_27, .int .i64 (wrap64 ((wrap64 (x11_27 - x9_27)) + 1)), .int .i64 (wrap64 ((wrap64 (x12_27 - x10_27)) + 1)), .int .i64 0, .int .i64 0, .int .i64 (-1), u177007]) ?_ 7 _ rfl; (with_reducible repeat (first | refine blk_drewN ?_ _ | refine blk_drew ?_ | refine blk_alloc ?_ _)); exact BK176.out⟩, ⟨by repeat (first | (with_reducible first | exact HB.out | apply below_alloc | apply pw_below_drewN | apply below_drew1 | refine below_set ?_ GE170.out | refine below_set ?_ GE176.out) | exact HB.out)⟩⟩
                  rw [if_neg c36] at H
                  have c36b0 : decide (x19_4 ≤ x12_27) = false := decide_eq_false c36
                  clear c36
                  by_cases c59 : x18_4 = true
                  rotate_left
                  · replace c59 := Bool.eq_false_iff.mpr c59
                    subst c59
                    have H1 : (some (x9_27, x10_27, (wrap64 ((wrap64 (x11_27 - x9_27)) + 1)), (wrap64 ((wrap64 (x12_27 - x10_27)) + 1)), 0, 0, (-1), x177007_4)) = some (r1, r2, r3, r4, r5, r6, r7, r8) := by rw [if_neg (show ¬ (false = true) by decide)] at H; exact H
                    clear H
                    have H := H1
                    clear H1
                    simp only [Option.some.injEq, Prod.mk.injEq] at H
                    obtain ⟨rfl, rfl, rfl, rfl, rfl, rfl, rfl, rfl⟩ := H
                    have hnb86 := NB176_170.out
                    have hnc86 := NB170_176.out
                    have hcz87_0 : wr.cell? ⟨gb176, 0, none⟩ = some (.int .i64 x9_27) := (blk_cell BK176.out 0).trans rfl
                    have hcz87_1 : wr.cell? ⟨gb176, 1, none⟩ = some (.int .i64 x10_27) := (blk_cell BK176.out 1).trans rfl
                    have hcz87_2 : wr.cell? ⟨gb176, 2, none⟩ = some (.int .i64 (wrap64 ((wrap64 (x11_27 - x9_27)) + 1))) := (blk_cell BK176.out 2).trans rfl
                    have hcz87_3 : wr.cell? ⟨gb176, 3, none⟩ = some (.int .i64 (wrap64 ((wrap64 (x12_27 - x10_27)) + 1))) := (blk_cell BK176.out 3).trans rfl
                    have hcz87_4 : wr.cell? ⟨gb176, 4, none⟩ = some (.int .i64 0) := (blk_cell BK176.out 4).trans rfl
                    have hcz87_5 : wr.cell? ⟨gb176, 5, none⟩ = some (.int .i64 0) := (blk_cell BK176.out 5).trans rfl
                    have hcz87_6 : wr.cell? ⟨gb176, 6, none⟩ = some (.int .i64 (-1)) := (blk_cell BK176.out 6).trans rfl
                    have hcz87_7 : wr.cell? ⟨gb176, 7, none⟩ = some (u177007) := (blk_cell BK176.out 7).trans rfl
                    have hfz87_0 := blk_frozen BK176.out 0
                    have hfz87_1 := blk_frozen BK176.out 1
                    have hfz87_2 := blk_frozen BK176.out 2
                    have hfz87_3 := blk_frozen BK176.out 3
                    have hfz87_4 := blk_frozen BK176.out 4
                    have hfz87_5 := blk_frozen BK176.out 5
                    have hfz87_6 := blk_frozen BK176.out 6
                    have hfz87_7 := blk_frozen BK176.out 7
                    have hcz88_0 : wr.cell? ⟨gb170, 0, none⟩ = some (.int .i64 0) := (blk_cell BK170.out 0).trans rfl
                    have hcz88_1 : wr.cell? ⟨gb170, 1, none⟩ = some (.int .i64 0) := (blk_cell BK170.out 1).trans rfl
                    have hcz88_2 : wr.cell? ⟨gb170, 2, none⟩ = some (.int .i64 0) := (blk_cell BK170.out 2).trans rfl
                    have hcz88_3 : wr.cell? ⟨gb170, 3, none⟩ = some (.int .i64 0) := (blk_cell BK170.out 3).trans rfl
                    have hcz88_4 : wr.cell? ⟨gb170, 4, none⟩ = some (.int .i64 0) := (blk_cell BK170.out 4).trans rfl
                    have hcz88_5 : wr.cell? ⟨gb170, 5, none⟩ = some (.int .i64 0) := (blk_cell BK170.out 5).trans rfl
                    have hcz88_6 : wr.cell? ⟨gb170, 6, none⟩ = some (.int .i64 0) := (blk_cell BK170.out 6).trans rfl
                    have hcz88_7 : wr.cell? ⟨gb170, 7, none⟩ = some (.slice none 0 0) := (blk_cell BK170.out 7).trans rfl
                    have hfz88_0 := blk_frozen BK170.out 0
                    have hfz88_1 := blk_frozen BK170.out 1
                    have hfz88_2 := blk_frozen BK170.out 2
                    have hfz88_3 := blk_frozen BK170.out 3
                    have hfz88_4 := blk_frozen BK170.out 4
                    have hfz88_5 := blk_frozen BK170.out 5
                    have hfz88_6 := blk_frozen BK170.out 6
                    have hfz88_7 := blk_frozen BK170.out 7
                    obtain ⟨Ao89, co89, eo89⟩ := Kd.R_slice HO_177007.out
                    subst eo89
                    go_wp2
                    repeat (go_quiet (fail); try go_wp2)
                    refine bodyPost_ret (results_cell_row rfl _ _ gb170 50 #[.int .i64 x9_27, .int .i64 x10_27, .int .i64 (wrap64 ((wrap64 (x11_27 - x9_27)) + 1)), .int .i64 (wrap64 ((wrap64 (x12_27 - x10_27)) + 1)), .int .i64 0, .int .i64 0, .int .i64 (-1), .slice Ao89 x177007_4.length co89] (0, 0) _ rfl (by (with_reducible repeat (first | refine blk_drewN ?_ _ | refine blk_drew ?_ | refine blk_alloc ?_ _)); refine blk_put (cs := #[.int .i64 x9_27, .int .i64 x10_27, .int .i64 (wrap64 ((wrap64 (x11_27 - x9_27)) + 1)), .int .i64 (wrap64 ((wrap64 (x12_27 - x10_27)) + 1)), .int .i64 0, .int .i64 0, .int .i64 (-1), .slice none 0 0]) ?_ 7 _ rfl; (with_reducible repeat (first | refine blk_drewN ?_ _ | refine blk_drew ?_ | refine blk_alloc ?_ _)); refine blk_put (cs := #[.int .i64 x9_27, .int .i64 x10_27, .int .i64 (wrap64 ((wrap64 (x11_27 - x9_27)) + 1)), .int .i64 (wrap64 ((wrap64 (x12_27 - x10_27)) + 1)), .int .i64 0, .int .i64 0, .int .i64 0, .slice none 0 0]) ?_ 6 _ rfl; (with_reducible repeat (first | refine blk_drewN ?_ _ | refine blk_drew ?_ | refine blk_alloc ?_ _)); refine blk_put (cs := #[.int .i64 x9_27, .int .i64 x10_27, .int .i64 (wrap64 ((wrap64 (x11_27 - x9_27)) + 1)), .int .i64 (wrap64 ((wrap64 (x12_27 - x10_27)) + 1)), .int .i64 0, .int .i64 0, .int .i64 0, .slice none 0 0]) ?_ 5 _ rfl; (with_reducible repeat (first | refine blk_drewN ?_ _ | refine blk_drew ?_ | refine blk_alloc ?_ _)); refine blk_put (cs := #[.int .i64 x9_27, .int .i64 x10_27, .int .i64 (wrap64 ((wrap64 (x11_27 - x9_27)) + 1)), .int .i64 (wrap64 ((wrap64 (x12_27 - x10_27)) + 1)), .int .i64 0, .int .i64 0, .int .i64 0, .slice none 0 0]) ?_ 4 _ rfl; (with_reducible repeat (first | refine blk_drewN ?_ _ | refine blk_drew ?_ | refine blk_alloc ?_ _)); refine blk_put (cs := #[.int .i64 x9_27, .int .i64 x10_27, .int .i64 (wrap64 ((wrap64 (x11_27 - x9_27)) + 1)), .int .i64 0, .int .i64 0, .int .i64 0, .int .i64 0, .slice none 0 0]) ?_ 3 _ rfl; (with_reducible repeat (first | refine blk_drewN ?_ _ | refine blk_drew ?_ | refine blk_alloc ?_ _)); refine blk_put (cs := #[.int .i64 x9_27, .int .i64 x10_27, .int .i64 0, .int .i64 0, .int .i64 0, .int .i64 0, .int .i64 0, .slice none 0 0]) ?_ 2 _ rfl; (with_reducible repeat (first | refine blk_drewN ?_ _ | refine blk_drew ?_ | refine blk_alloc ?_ _)); refine blk_put (cs := #[.int .i64 x9_27, .int .i64 0, .int .i64 0, .int .i64 0, .int .i64 0, .int .i64 0, .int .i64 0, .slice none 0 0]) ?_ 1 _ rfl; (with_reducible repeat (first | refine blk_drewN ?_ _ | refine blk_drew ?_ | refine blk_alloc ?_ _)); refine blk_put (cs := #[.int .i64 0, .int .i64 0, .int .i64 0, .int .i64 0, .int .i64 0, .int .i64 0, .int .i64 0, .slice none 0 0]) ?_ 0 _ rfl; (with_reducible repeat (first | refine blk_drewN ?_ _ | refine blk_drew ?_ | refine blk_alloc ?_ _)); exact BK170.out) Try.underlying50 rfl (by kernel_rfl)) rfl ?_
                    exact ⟨_, by first | rfl | (simp [errW_none, errW_some] <;> rfl) | (simp [*, errW_none, errW_some] <;> rfl), by (with_reducible repeat (first | apply Kd.R_alloc | apply Kd.R_drewN | apply Kd.R_drew)); exact Kd.R_mono (Kd.R_far (p := ⟨gb170, 7, none⟩) (Kd.R_far (p := ⟨gb170, 6, none⟩) (Kd.R_far (p := ⟨gb170, 5, none⟩) (Kd.R_far (p := ⟨gb170, 4, none⟩) (Kd.R_far (p := ⟨gb170, 3, none⟩) (Kd.R_far (p := ⟨gb170, 2, none⟩) (Kd.R_far (p := ⟨gb170, 1, none⟩) (Kd.R_far (p := ⟨gb170, 0, none⟩) (Kd.R_types HO_177007.out BK170.out (by decide)) (fun _ hk => hk.2) (.int .i64 x9_27)) (fun _ hk => hk.2) (.int .i64 x10_27)) (fun _ hk => hk.2) (.int .i64 (wrap64 ((wrap64 (x11_27 - x9_27)) + 1)))) (fun _ hk => hk.2) (.int .i64 (wrap64 ((wrap64 (x12_27 - x10_27)) + 1)))) (fun _ hk => hk.2) (.int .i64 0)) (fun _ hk => hk.2) (.int .i64 0)) (fun _ hk => hk.2) (.int .i64 (-1))) (fun _ hk => hk.2) (.slice Ao89 x177007_4.length co89)) (fun _ hk => trivial), by repeat (first | (with_reducible first | exact HB.out | apply below_alloc | apply pw_below_drewN | apply below_drew1 | refine below_set ?_ GE170.out | refine below_set ?_ GE176.out) | exact HB.out)⟩
                  subst c59
                  have H1 : (spec_Between.l3 k4 x17_4 255 x9_27 x10_27 (wrap64 ((wrap64 (x11_27 - x9_27)) + 1)) (wrap64 ((wrap64 (x12_27 - x10_27)) + 1)) 0 0 (-1) x177007_4) = some (r1, r2, r3, r4, r5, r6, r7, r8) := by rw [if_pos rfl] at H; exact H
                  clear H
                  have H := H1
                  clear H1
                  have H' := Aside0.mk H
                  clear H
                  go_wp2
                  repeat (go_quiet (fail); try go_wp2)
                  go_loopg [22] k4 (fun kq v22 w' => ∃ (x22_5 : Int) (x177006_5 : Int), v22 = .int .i64 x22_5 ∧ Aside0 (spec_Between.l3 kq x17_4 x22_5 x9_27 x10_27 (wrap64 ((wrap64 (x11_27 - x9_27)) + 1)) (wrap64 ((wrap64 (x12_27 - x10_27)) + 1)) 0 0 x177006_5 x177007_4 = some (r1, r2, r3, r4, r5, r6, r7, r8)) ∧ Aside0 (kq ≤ k4) ∧ Aside0 (Kd.R Kd.bool 4 w' w.heap.size (fun _ => True) v178 x17_4) ∧ Aside0 (Kd.R (Kd.int .i64) 3 w' w.heap.size (fun _ => True) u177007 x177007_4) ∧ Aside0 (w'.heap[gb170]? = some (.cells #[.int .i64 0, .int .i64 0, .int .i64 0, .int .i64 0, .int .i64 0, .int .i64 0, .int .i64 0, (.slice none 0 0)] 50 (0, 0))) ∧ Aside0 (w'.heap[gb176]? = some (.cells #[.int .i64 x9_27, .int .i64 x10_27, .int .i64 (wrap64 ((wrap64 (x11_27 - x9_27)) + 1)), .int .i64 (wrap64 ((wrap64 (x12_27 - x10_27)) + 1)), .int .i64 0, .int .i64 0, .int .i64 x177006_5, u177007] 50 (0, 0))) ∧ Aside0 (Below w.heap.size w w'))
                  case atStart => exact ⟨(255), ((-1)), (by first | rfl | (simp; done) | (simp [*]; done)), H', ⟨Nat.le_refl _⟩, ⟨by (with_reducible repeat (first | apply Kd.R_alloc | apply Kd.R_drewN | apply Kd.R_drew)); exact HO_17.out⟩, ⟨by (with_reducible repeat (first | apply Kd.R_alloc | apply Kd.R_drewN | apply Kd.R_drew)); exact HO_177007.out⟩, ⟨by (with_reducible repeat (first | refine blk_drewN ?_ _ | refine blk_drew ?_ | refine blk_alloc ?_ _)); exact BK170.out⟩, ⟨by (with_reducible repeat (first | refine blk_drewN ?_ _ | refine blk_drew ?_ | refine blk_alloc ?_ _)); exact BK176.out⟩, ⟨by repeat (first | (with_reducible first | exact HB.out | apply below_alloc | apply pw_below_drewN | apply below_drew1 | refine below_set ?_ GE170.out | refine below_set ?_ GE176.out) | exact HB.out)⟩⟩
                  case round =>
                    clear H'
                    try clear c1
                    try clear p1
                    try clear q1
                    try clear hx1
                    try clear c2
                    try clear p2
                    try clear c3
                    try clear c4
                    try clear c5
                    try clear p5
                    try clear q5
                    try clear hx5
                    try clear hf5
                    try clear p6
                    try clear c8
                    try clear c9
                    try clear c9b0
                    try clear c11
                    try clear c13
                    try clear c15
                    try clear c15b0
                    try clear c16
                    try clear c16b0
                    try clear c17
                    try clear c17b0
                    try clear p17
                    try clear q17
                    try clear hx17
                    try clear c18
                    try clear c18b0
                    try clear p18
                    try clear q18
                    try clear hx18
                    try clear c19
                    try clear c19b0
                    try clear c19b1
                    try clear c20
                    try clear c20b0
                    try clear c20b1
                    try clear c22
                    try clear c22b0
                    try clear c24
                    try clear c24b0
                    try clear c25
                    try clear c25b0
                    try clear c26
                    try clear c26b0
                    try clear c27
                    try clear c27b0
                    try clear c29
                    try clear c29b0
                    try clear c30
                    try clear c30b0
                    try clear c30b1
                    try clear c32
                    try clear c36
                    try clear c36b0
                    try clear c37
                    try clear c37b0
                    try clear c39
                    try clear c39b0
                    try clear c40
                    try clear c40b0
                    try clear c41
                    try clear c41b0
                    try clear c42
                    try clear c43
                    try clear c48
                    try clear c48b0
                    try clear c49
                    try clear c49b0
                    try clear p50
                    try clear q50
                    try clear hx50
                    try clear hf50
                    try clear c51
                    try clear c54
                    try clear c59
                    try clear hcz14_0
                    try clear hcz14_1
                    try clear hcz14_2
                    try clear hcz14_3
                    try clear hcz14_4
                    try clear hcz14_5
                    try clear hcz14_6
                    try clear hcz14_7
                    try clear hcz33_0
                    try clear hcz33_1
                    try clear hcz33_2
                    try clear hcz33_3
                    try clear hcz33_4
                    try clear hcz33_5
                    try clear hcz33_6
                    try clear hcz33_7
                    try clear hcz44_0
                    try clear hcz44_1
                    try clear hcz44_2
                    try clear hcz44_3
                    try clear hcz44_4
                    try clear hcz44_5
                    try clear hcz44_6
                    try clear hcz44_7
                    try clear hcz47_0
                    try clear hcz47_1
                    try clear hcz47_2
                    try clear hcz47_3
                    try clear hcz47_4
                    try clear hcz47_5
                    try clear hcz47_6
                    try clear hcz47_7
                    try clear hcz55_0
                    try clear hcz55_1
                    try clear hcz55_2
                    try clear hcz55_3
                    try clear hcz55_4
                    try clear hcz55_5
                    try clear hcz55_6
                    try clear hcz55_7
                    try clear hcz58_0
                    try clear hcz58_1
                    try clear hcz58_2
                    try clear hcz58_3
                    try clear hcz58_4
                    try clear hcz58_5
                    try clear hcz58_6
                    try clear hcz58_7
                    try clear hfz14_0
                    try clear hfz14_1
                    try clear hfz14_2
                    try clear hfz14_3
                    try clear hfz14_4
                    try clear hfz14_5
                    try clear hfz14_6
                    try clear hfz14_7
                    try clear hfz33_0
                    try clear hfz33_1
                    try clear hfz33_2
                    try clear hfz33_3
                    try clear hfz33_4
                    try clear hfz33_5
                    try clear hfz33_6
                    try clear hfz33_7
                    try clear hfz44_0
                    try clear hfz44_1
                    try clear hfz44_2
                    try clear hfz44_3
                    try clear hfz44_4
                    try clear hfz44_5
                    try clear hfz44_6
                    try clear hfz44_7
                    try clear hfz47_0
                    try clear hfz47_1
                    try clear hfz47_2
                    try clear hfz47_3
                    try clear hfz47_4
                    try clear hfz47_5
                    try clear hfz47_6
                    try clear hfz47_7
                    try clear hfz55_0
                    try clear hfz55_1
                    try clear hfz55_2
                    try clear hfz55_3
                    try clear hfz55_4
                    try clear hfz55_5
                    try clear hfz55_6
                    try clear hfz55_7
                    try clear hfz58_0
                    try clear hfz58_1
                    try clear hfz58_2
                    try clear hfz58_3
                    try clear hfz58_4
                    try clear hfz58_5
                    try clear hfz58_6
                    try clear hfz58_7
                    try clear hx174_0
                    try clear hx175_0
                    try clear hx180_0
                    try clear hx50_0
                    try clear p1
                    try clear p17
                    try clear p174
                    try clear p175
                    try clear p180
                    try clear p2
                    try clear p50
                    try clear p6
                    try clear q1
                    try clear q17
                    try clear q174
                    try clear q175
                    try clear q180
                    try clear q50
                    obtain ⟨x22_5, x177006_5, rfl, HA, HK5, HO_17, HO_177007, BK170, BK176, HB⟩ := hrel
                    cases gk with
                    | zero => exact absurd HA.out (by simp [spec_Between.l3])
                    | succ k5 =>
                      have H := HA.out
                      clear HA
                      simp only [spec_Between.l3] at H
                      by_cases c60 : x22_5 ≥ 0
                      · rw [if_pos c60] at H
                        have c60b0 : decide (0 ≤ x22_5) = true := decide_eq_true c60
                        clear c60
                        by_cases c61 : 0 ≤ x22_5
                        rotate_left
                        · rw [if_neg c61] at H
                          exact absurd H (by simp)
                        rw [if_pos c61] at H
                        have c61b0 : decide (0 ≤ x22_5) = true := decide_eq_true c61
                        clear c61
                        by_cases c62 : x22_5 < (x17_4.length : Int)
                        rotate_left
                        · rw [if_neg c62] at H
                          exact absurd H (by simp)
                        rw [if_pos c62] at H
                        have c62b0 : decide (x22_5 < (x17_4.length : Int)) = true := decide_eq_true c62
                        clear c62
                        obtain ⟨bq63, hbq63⟩ : ∃ b_ : Bool, b_ = (rdOf false x17_4 x22_5) := ⟨_, rfl⟩
                        replace H : (if bq63 = true then (spec_Between.l3 k5 x17_4 (wrap64 (x22_5 - 1)) x9_27 x10_27 (wrap64 ((wrap64 (x11_27 - x9_27)) + 1)) (wrap64 ((wrap64 (x12_27 - x10_27)) + 1)) 0 0 x177006_5 x177007_4) else (spec_Between.l3 k5 x17_4 (wrap64 (x22_5 - 1)) x9_27 x10_27 (wrap64 ((wrap64 (x11_27 - x9_27)) + 1)) (wrap64 ((wrap64 (x12_27 - x10_27)) + 1)) 0 0 x22_5 x177007_4)) = some (r1, r2, r3, r4, r5, r6, r7, r8) := by rw [← hbq63] at H; exact H
                        have Nbq63 := Aside0.mk hbq63
                        clear hbq63
                        by_cases c64 : bq63 = true
                        · subst c64
                          have H1 : (spec_Between.l3 k5 x17_4 (wrap64 (x22_5 - 1)) x9_27 x10_27 (wrap64 ((wrap64 (x11_27 - x9_27)) + 1)) (wrap64 ((wrap64 (x12_27 - x10_27)) + 1)) 0 0 x177006_5 x177007_4) = some (r1, r2, r3, r4, r5, r6, r7, r8) := by rw [if_pos rfl] at H; exact H
                          clear H
                          have H := H1
                          clear H1
                          have H' := Aside0.mk H
                          clear H
                          obtain ⟨Ao65, co65, eo65⟩ := Kd.R_slice HO_17.out
                          subst eo65
                          have p188 : 0 ≤ (x22_5 : Int) := of_decide_eq_true (by first | (with_reducible assumption) | assumption)
                          have q188 : x22_5 < (x17_4.length : Int) := of_decide_eq_true (by first | (with_reducible assumption) | assumption)
                          obtain ⟨ad188, e188, hx188_0⟩ := Kd.at_bool (Kd.R_reads' HO_17.out).2.2 x22_5 p188 q188
                          (try rw [← Nbq63.out] at hx188_0)
                          cases e188
                          replace p188 := eq_true p188
                          replace q188 := eq_true q188
                          go_wp2
                          repeat (go_quiet (fail); try go_wp2)
                          go_roundg k5
                          case measure => have := HJ4.out; have := HK2.out; have := HJ27.out; have := HK4.out; have := HK5.out; omega
                          case rel => exact ⟨(wrap64 (x22_5 - 1)), (x177006_5), (by first | rfl | (simp; done) | (simp [*]; done)), H', ⟨by have := HJ4.out; have := HK2.out; have := HJ27.out; have := HK4.out; have := HK5.out; omega⟩, ⟨by (with_reducible repeat (first | apply Kd.R_alloc | apply Kd.R_drewN | apply Kd.R_drew)); exact HO_17.out⟩, ⟨by (with_reducible repeat (first | apply Kd.R_alloc | apply Kd.R_drewN | apply Kd.R_drew)); exact HO_177007.out⟩, ⟨by (with_reducible repeat (first | refine blk_drewN ?_ _ | refine blk_drew ?_ | refine blk_alloc ?_ _)); exact BK170.out⟩, ⟨by (with_reducible repeat (first | refine blk_drewN ?_ _ | refine blk_drew ?_ | refine blk_alloc ?_ _)); exact BK176.out⟩, ⟨by repeat (first | (with_reducible first | exact HB.out | apply below_alloc | apply pw_below_drewN | apply below_drew1 | refine below_set ?_ GE170.out | refine below_set ?_ GE176.out) | exact HB.out)⟩⟩
                        replace c64 := Bool.eq_false_iff.mpr c64
                        subst c64
                        have H1 : (spec_Between.l3 k5 x17_4 (wrap64 (x22_5 - 1)) x9_27 x10_27 (wrap64 ((wrap64 (x11_27 - x9_27)) + 1)) (wrap64 ((wrap64 (x12_27 - x10_27)) + 1)) 0 0 x22_5 x177007_4) = some (r1, r2, r3, r4, r5, r6, r7, r8) := by rw [if_neg (show ¬ (false = true) by decide)] at H; exact H
                        clear H
                        have H := H1
                        clear H1
                        have H' := Aside0.mk H
                        clear H
                        obtain ⟨Ao66, co66, eo66⟩ := Kd.R_slice HO_17.out
                        subst eo66
                        have p188 : 0 ≤ (x22_5 : Int) := of_decide_eq_true (by first | (with_reducible assumption) | assumption)
                        have q188 : x22_5 < (x17_4.length : Int) := of_decide_eq_true (by first | (with_reducible assumption) | assumption)
                        obtain ⟨ad188, e188, hx188_0⟩ := Kd.at_bool (Kd.R_reads' HO_17.out).2.2 x22_5 p188 q188
                        (try rw [← Nbq63.out] at hx188_0)
                        cases e188
                        replace p188 := eq_true p188
                        replace q188 := eq_true q188
                        have hnb67 := NB176_170.out
                        have hnc67 := NB170_176.out
                        have hcz68_0 : wr.cell? ⟨gb176, 0, none⟩ = some (.int .i64 x9_27) := (blk_cell BK176.out 0).trans rfl
                        have hcz68_1 : wr.cell? ⟨gb176, 1, none⟩ = some (.int .i64 x10_27) := (blk_cell BK176.out 1).trans rfl
                        have hcz68_2 : wr.cell? ⟨gb176, 2, none⟩ = some (.int .i64 (wrap64 ((wrap64 (x11_27 - x9_27)) + 1))) := (blk_cell BK176.out 2).trans rfl
                        have hcz68_3 : wr.cell? ⟨gb176, 3, none⟩ = some (.int .i64 (wrap64 ((wrap64 (x12_27 - x10_27)) + 1))) := (blk_cell BK176.out 3).trans rfl
                        have hcz68_4 : wr.cell? ⟨gb176, 4, none⟩ = some (.int .i64 0) := (blk_cell BK176.out 4).trans rfl
                        have hcz68_5 : wr.cell? ⟨gb176, 5, none⟩ = some (.int .i64 0) := (blk_cell BK176.out 5).trans rfl
                        have hcz68_6 : wr.cell? ⟨gb176, 6, none⟩ = some (.int .i64 x177006_5) := (blk_cell BK176.out 6).trans rfl
                        have hcz68_7 : wr.cell? ⟨gb176, 7, none⟩ = some (u177007) := (blk_cell BK176.out 7).trans rfl
                        have hfz68_0 := blk_frozen BK176.out 0
                        have hfz68_1 := blk_frozen BK176.out 1
                        have hfz68_2 := blk_frozen BK176.out 2
                        have hfz68_3 := blk_frozen BK176.out 3
                        have hfz68_4 := blk_frozen BK176.out 4
                        have hfz68_5 := blk_frozen BK176.out 5
                        have hfz68_6 := blk_frozen BK176.out 6
                        have hfz68_7 := blk_frozen BK176.out 7
                        go_wp2
                        repeat (go_quiet (fail); try go_wp2)
                        go_roundg k5
                        case measure => have := HJ4.out; have := HK2.out; have := HJ27.out; have := HK4.out; have := HK5.out; omega
                        case rel => exact ⟨(wrap64 (x22_5 - 1)), (x22_5), (by first | rfl | (simp; done) | (simp [*]; done)), H', ⟨by have := HJ4.out; have := HK2.out; have := HJ27.out; have := HK4.out; have := HK5.out; omega⟩, ⟨by (with_reducible repeat (first | apply Kd.R_alloc | apply Kd.R_drewN | apply Kd.R_drew)); exact Kd.R_mono (Kd.R_far (p := ⟨gb176, 6, none⟩) (Kd.R_types HO_17.out BK176.out (by decide)) (fun _ hk => hk.2) (.int .i64 x22_5)) (fun _ hk => trivial)⟩, ⟨by (with_reducible repeat (first | apply Kd.R_alloc | apply Kd.R_drewN | apply Kd.R_drew)); exact Kd.R_mono (Kd.R_far (p := ⟨gb176, 6, none⟩) (Kd.R_types HO_177007.out BK176.out (by decide)) (fun _ hk => hk.2) (.int .i64 x22_5)) (fun _ hk => trivial)⟩, ⟨by (with_reducible repeat (first | refine blk_drewN ?_ _ | refine blk_drew ?_ | refine blk_alloc ?_ _)); refine blk_far ?_ NB170_176.out _; (with_reducible repeat (first | refine blk_drewN ?_ _ | refine blk_drew ?_ | refine blk_alloc ?_ _)); exact BK170.out⟩, ⟨by (with_reducible repeat (first | refine blk_drewN ?_ _ | refine blk_drew ?_ | refine blk_alloc ?_ _)); refine blk_put (cs := #[.int .i64 x9_27, .int .i64 x10_27, .int .i64 (wrap64 ((wrap64 (x11_27 - x9_27)) + 1)), .int .i64 (wrap64 ((wrap64 (x12_27 - x10_27)) + 1)), .int .i64 0, .int .i64 0, .int .i64 x177006_5, u177007]) ?_ 6 _ rfl; (with_reducible repeat (first | refine blk_drewN ?_ _ | refine blk_drew ?_ | refine blk_alloc ?_ _)); exact BK176.out⟩, ⟨by repeat (first | (with_reducible first | exact HB.out | apply below_alloc | apply pw_below_drewN | apply below_drew1 | refine below_set ?_ GE170.out | refine below_set ?_ GE176.out) | exact HB.out)⟩⟩
                      rw [if_neg c60] at H
                      have c60b0 : decide (0 ≤ x22_5) = false := decide_eq_false c60
                      clear c60
                      have H' := Aside0.mk H
                      clear H
                      have hnb69 := NB176_170.out
                      have hnc69 := NB170_176.out
                      have hcz70_0 : wr.cell? ⟨gb176, 0, none⟩ = some (.int .i64 x9_27) := (blk_cell BK176.out 0).trans rfl
                      have hcz70_1 : wr.cell? ⟨gb176, 1, none⟩ = some (.int .i64 x10_27) := (blk_cell BK176.out 1).trans rfl
                      have hcz70_2 : wr.cell? ⟨gb176, 2, none⟩ = some (.int .i64 (wrap64 ((wrap64 (x11_27 - x9_27)) + 1))) := (blk_cell BK176.out 2).trans rfl
                      have hcz70_3 : wr.cell? ⟨gb176, 3, none⟩ = some (.int .i64 (wrap64 ((wrap64 (x12_27 - x10_27)) + 1))) := (blk_cell BK176.out 3).trans rfl
                      have hcz70_4 : wr.cell? ⟨gb176, 4, none⟩ = some (.int .i64 0) := (blk_cell BK176.out 4).trans rfl
                      have hcz70_5 : wr.cell? ⟨gb176, 5, none⟩ = some (.int .i64 0) := (blk_cell BK176.out 5).trans rfl
                      have hcz70_6 : wr.cell? ⟨gb176, 6, none⟩ = some (.int .i64 x177006_5) := (blk_cell BK176.out 6).trans rfl
                      have hcz70_7 : wr.cell? ⟨gb176, 7, none⟩ = some (u177007) := (blk_cell BK176.out 7).trans rfl
                      have hfz70_0 := blk_frozen BK176.out 0
                      have hfz70_1 := blk_frozen BK176.out 1
                      have hfz70_2 := blk_frozen BK176.out 2
                      have hfz70_3 := blk_frozen BK176.out 3
                      have hfz70_4 := blk_frozen BK176.out 4
                      have hfz70_5 := blk_frozen BK176.out 5
                      have hfz70_6 := blk_frozen BK176.out 6
                      have hfz70_7 := blk_frozen BK176.out 7
                      obtain ⟨Ao71, co71, eo71⟩ := Kd.R_slice HO_177007.out
                      subst eo71
                      go_wp2
                      repeat (go_quiet (fail); try go_wp2)
                      go_loopg [150] k5 (fun kq v150 w' => ∃ (x150_6 : Int) (x177007_6 : List Int), v150 = .int .i64 x150_6 ∧ Aside0 (spec_Between.l4 kq (x177007_4.length : Int) x150_6 x9_27 x10_27 (wrap64 ((wrap64 (x11_27 - x9_27)) + 1)) (wrap64 ((wrap64 (x12_27 - x10_27)) + 1)) 0 0 x177006_5 x177007_6 = some (r1, r2, r3, r4, r5, r6, r7, r8)) ∧ Aside0 (kq ≤ k5) ∧ Aside0 (Kd.R (Kd.int .i64) 3 w' w.heap.size (fun _ => True) (.slice Ao71 x177007_4.length co71) x177007_6) ∧ Aside0 (w'.heap[gb170]? = some (.cells #[.int .i64 0, .int .i64 0, .int .i64 0, .int .i64 0, .int .i64 0, .int .i64 0, .int .i64 0, (.slice none 0 0)] 50 (0, 0))) ∧ Aside0 (w'.heap[gb176]? = some (.cells #[.int .i64 x9_27, .int .i64 x10_27, .int .i64 (wrap64 ((wrap64 (x11_27 - x9_27)) + 1)), .int .i64 (wrap64 ((wrap64 (x12_27 - x10_27)) + 1)), .int .i64 0, .int .i64 0, .int .i64 x177006_5, (.slice Ao71 x177007_4.length co71)] 50 (0, 0))) ∧ Aside0 (Below w.heap.size w w'))
                      case atStart => exact ⟨(0), (x177007_4), (by first | rfl | (simp; done) | (simp [*]; done)), H', ⟨Nat.le_refl _⟩, ⟨by (with_reducible repeat (first | apply Kd.R_alloc | apply Kd.R_drewN | apply Kd.R_drew)); exact HO_177007.out⟩, ⟨by (with_reducible repeat (first | refine blk_drewN ?_ _ | refine blk_drew ?_ | refine blk_alloc ?_ _)); exact BK170.out⟩, ⟨by (with_reducible repeat (first | refine blk_drewN ?_ _ | refine blk_drew ?_ | refine blk_alloc ?_ _)); exact BK176.out⟩, ⟨by repeat (first | (with_reducible first | exact HB.out | apply below_alloc | apply pw_below_drewN | apply below_drew1 | refine below_set ?_ GE170.out | refine below_set ?_ GE176.out) | exact HB.out)⟩⟩
                      case round =>
                        clear H'
                        try clear c1
                        try clear p1
                        try clear q1
                        try clear hx1
                        try clear c2
                        try clear p2
                        try clear c3
                        try clear c4
                        try clear c5
                        try clear p5
                        try clear q5
                        try clear hx5
                        try clear hf5
                        try clear c6
                        try clear p6
                        try clear q6
                        try clear c8
                        try clear c9
                        try clear c9b0
                        try clear c11
                        try clear c13
                        try clear c15
                        try clear c15b0
                        try clear c16
                        try clear c16b0
                        try clear c17
                        try clear c17b0
                        try clear p17
                        try clear q17
                        try clear hx17
                        try clear c18
                        try clear c18b0
                        try clear p18
                        try clear q18
                        try clear hx18
                        try clear c19
                        try clear c19b0
                        try clear c19b1
                        try clear c20
                        try clear c20b0
                        try clear c20b1
                        try clear c22
                        try clear c22b0
                        try clear c24
                        try clear c24b0
                        try clear c25
                        try clear c25b0
                        try clear c26
                        try clear c26b0
                        try clear c27
                        try clear c27b0
                        try clear c29
                        try clear c29b0
                        try clear c30
                        try clear c30b0
                        try clear c30b1
                        try clear c32
                        try clear c36
                        try clear c36b0
                        try clear c37
                        try clear c37b0
                        try clear c39
                        try clear c39b0
                        try clear c40
                        try clear c40b0
                        try clear c41
                        try clear c41b0
                        try clear c42
                        try clear c43
                        try clear c48
                        try clear c48b0
                        try clear c49
                        try clear c49b0
                        try clear p50
                        try clear q50
                        try clear hx50
                        try clear hf50
                        try clear c51
                        try clear c54
                        try clear c59
                        try clear c60
                        try clear c60b0
                        try clear c61
                        try clear c61b0
                        try clear c62
                        try clear c62b0
                        try clear q63
                        try clear c64
                        try clear p64
                        try clear c67
                        try clear c69
                        try clear hcz14_0
                        try clear hcz14_1
                        try clear hcz14_2
                        try clear hcz14_3
                        try clear hcz14_4
                        try clear hcz14_5
                        try clear hcz14_6
                        try clear hcz14_7
                        try clear hcz33_0
                        try clear hcz33_1
                        try clear hcz33_2
                        try clear hcz33_3
                        try clear hcz33_4
                        try clear hcz33_5
                        try clear hcz33_6
                        try clear hcz33_7
                        try clear hcz44_0
                        try clear hcz44_1
                        try clear hcz44_2
                        try clear hcz44_3
                        try clear hcz44_4
                        try clear hcz44_5
                        try clear hcz44_6
                        try clear hcz44_7
                        try clear hcz47_0
                        try clear hcz47_1
                        try clear hcz47_2
                        try clear hcz47_3
                        try clear hcz47_4
                        try clear hcz47_5
                        try clear hcz47_6
                        try clear hcz47_7
                        try clear hcz55_0
                        try clear hcz55_1
                        try clear hcz55_2
                        try clear hcz55_3
                        try clear hcz55_4
                        try clear hcz55_5
                        try clear hcz55_6
                        try clear hcz55_7
                        try clear hcz58_0
                        try clear hcz58_1
                        try clear hcz58_2
                        try clear hcz58_3
                        try clear hcz58_4
                        try clear hcz58_5
                        try clear hcz58_6
                        try clear hcz58_7
                        try clear hcz68_0
                        try clear hcz68_1
                        try clear hcz68_2
                        try clear hcz68_3
                        try clear hcz68_4
                        try clear hcz68_5
                        try clear hcz68_6
                        try clear hcz68_7
                        try clear hcz70_0
                        try clear hcz70_1
                        try clear hcz70_2
                        try clear hcz70_3
                        try clear hcz70_4
                        try clear hcz70_5
                        try clear hcz70_6
                        try clear hcz70_7
                        try clear hfz14_0
                        try clear hfz14_1
                        try clear hfz14_2
                        try clear hfz14_3
                        try clear hfz14_4
                        try clear hfz14_5
                        try clear hfz14_6
                        try clear hfz14_7
                        try clear hfz33_0
                        try clear hfz33_1
                        try clear hfz33_2
                        try clear hfz33_3
                        try clear hfz33_4
                        try clear hfz33_5
                        try clear hfz33_6
                        try clear hfz33_7
                        try clear hfz44_0
                        try clear hfz44_1
                        try clear hfz44_2
                        try clear hfz44_3
                        try clear hfz44_4
                        try clear hfz44_5
                        try clear hfz44_6
                        try clear hfz44_7
                        try clear hfz47_0
                        try clear hfz47_1
                        try clear hfz47_2
                        try clear hfz47_3
                        try clear hfz47_4
                        try clear hfz47_5
                        try clear hfz47_6
                        try clear hfz47_7
                        try clear hfz55_0
                        try clear hfz55_1
                        try clear hfz55_2
                        try clear hfz55_3
                        try clear hfz55_4
                        try clear hfz55_5
                        try clear hfz55_6
                        try clear hfz55_7
                        try clear hfz58_0
                        try clear hfz58_1
                        try clear hfz58_2
                        try clear hfz58_3
                        try clear hfz58_4
                        try clear hfz58_5
                        try clear hfz58_6
                        try clear hfz58_7
                        try clear hfz68_0
                        try clear hfz68_1
                        try clear hfz68_2
                        try clear hfz68_3
                        try clear hfz68_4
                        try clear hfz68_5
                        try clear hfz68_6
                        try clear hfz68_7
                        try clear hfz70_0
                        try clear hfz70_1
                        try clear hfz70_2
                        try clear hfz70_3
                        try clear hfz70_4
                        try clear hfz70_5
                        try clear hfz70_6
                        try clear hfz70_7
                        try clear hx174_0
                        try clear hx175_0
                        try clear hx180_0
                        try clear hx188_0
                        try clear hx50_0
                        try clear p1
                        try clear p17
                        try clear p174
                        try clear p175
                        try clear p18
                        try clear p180
                        try clear p188
                        try clear p2
                        try clear p5
                        try clear p50
                        try clear p6
                        try clear q1
                        try clear q17
                        try clear q174
                        try clear q175
                        try clear q18
                        try clear q180
                        try clear q188
                        try clear q5
                        try clear q50
                        obtain ⟨x150_6, x177007_6, rfl, HA, HK6, HO_177007, BK170, BK176, HB⟩ := hrel
                        have hl177007_6 := (Kd.R_reads' HO_177007.out).1
                        rw [hl177007_6] at HO_177007
                        (try simp only [hl177007_6])
                        (try simp only [hl177007_6] at BK170)
                        (try simp only [hl177007_6] at BK176)
                        cases gk with
                        | zero => exact absurd HA.out (by simp [spec_Between.l4])
                        | succ k6 =>
                          have H := HA.out
                          clear HA
                          simp only [spec_Between.l4] at H
                          by_cases c72 : x150_6 < (x177007_4.length : Int)
                          rotate_left
                          · rw [if_neg c72] at H
                            have c72b0 : decide (x150_6 < (x177007_4.length : Int)) = false := decide_eq_false c72
                            (try simp only [hl177007_6] at c72b0)
                            clear c72
                            simp only [Option.some.injEq, Prod.mk.injEq] at H
                            obtain ⟨rfl, rfl, rfl, rfl, rfl, rfl, rfl, rfl⟩ := H
                            have hnb83 := NB176_170.out
                            have hnc83 := NB170_176.out
                            have hcz84_0 : wr.cell? ⟨gb176, 0, none⟩ = some (.int .i64 x9_27) := (blk_cell BK176.out 0).trans rfl
                            have hcz84_1 : wr.cell? ⟨gb176, 1, none⟩ = some (.int .i64 x10_27) := (blk_cell BK176.out 1).trans rfl
                            have hcz84_2 : wr.cell? ⟨gb176, 2, none⟩ = some (.int .i64 (wrap64 ((wrap64 (x11_27 - x9_27)) + 1))) := (blk_cell BK176.out 2).trans rfl
                            have hcz84_3 : wr.cell? ⟨gb176, 3, none⟩ = some (.int .i64 (wrap64 ((wrap64 (x12_27 - x10_27)) + 1))) := (blk_cell BK176.out 3).trans rfl
                            have hcz84_4 : wr.cell? ⟨gb176, 4, none⟩ = some (.int .i64 0) := (blk_cell BK176.out 4).trans rfl
                            have hcz84_5 : wr.cell? ⟨gb176, 5, none⟩ = some (.int .i64 0) := (blk_cell BK176.out 5).trans rfl
                            have hcz84_6 : wr.cell? ⟨gb176, 6, none⟩ = some (.int .i64 x177006_5) := (blk_cell BK176.out 6).trans rfl
                            have hcz84_7 : wr.cell? ⟨gb176, 7, none⟩ = some (.slice Ao71 x177007_6.length co71) := (blk_cell BK176.out 7).trans rfl
                            have hfz84_0 := blk_frozen BK176.out 0
                            have hfz84_1 := blk_frozen BK176.out 1
                            have hfz84_2 := blk_frozen BK176.out 2
                            have hfz84_3 := blk_frozen BK176.out 3
                            have hfz84_4 := blk_frozen BK176.out 4
                            have hfz84_5 := blk_frozen BK176.out 5
                            have hfz84_6 := blk_frozen BK176.out 6
                            have hfz84_7 := blk_frozen BK176.out 7
                            have hcz85_0 : wr.cell? ⟨gb170, 0, none⟩ = some (.int .i64 0) := (blk_cell BK170.out 0).trans rfl
                            have hcz85_1 : wr.cell? ⟨gb170, 1, none⟩ = some (.int .i64 0) := (blk_cell BK170.out 1).trans rfl
                            have hcz85_2 : wr.cell? ⟨gb170, 2, none⟩ = some (.int .i64 0) := (blk_cell BK170.out 2).trans rfl
                            have hcz85_3 : wr.cell? ⟨gb170, 3, none⟩ = some (.int .i64 0) := (blk_cell BK170.out 3).trans rfl
                            have hcz85_4 : wr.cell? ⟨gb170, 4, none⟩ = some (.int .i64 0) := (blk_cell BK170.out 4).trans rfl
                            have hcz85_5 : wr.cell? ⟨gb170, 5, none⟩ = some (.int .i64 0) := (blk_cell BK170.out 5).trans rfl
                            have hcz85_6 : wr.cell? ⟨gb170, 6, none⟩ = some (.int .i64 0) := (blk_cell BK170.out 6).trans rfl
                            have hcz85_7 : wr.cell? ⟨gb170, 7, none⟩ = some (.slice none 0 0) := (blk_cell BK170.out 7).trans rfl
                            have hfz85_0 := blk_frozen BK170.out 0
                            have hfz85_1 := blk_frozen BK170.out 1
                            have hfz85_2 := blk_frozen BK170.out 2
                            have hfz85_3 := blk_frozen BK170.out 3
                            have hfz85_4 := blk_frozen BK170.out 4
                            have hfz85_5 := blk_frozen BK170.out 5
                            have hfz85_6 := blk_frozen BK170.out 6
                            have hfz85_7 := blk_frozen BK170.out 7
                            go_wp2
                            repeat (go_quiet (fail); try go_wp2)
                            refine bodyPost_ret (results_cell_row rfl _ _ gb170 50 #[.int .i64 x9_27, .int .i64 x10_27, .int .i64 (wrap64 ((wrap64 (x11_27 - x9_27)) + 1)), .int .i64 (wrap64 ((wrap64 (x12_27 - x10_27)) + 1)), .int .i64 0, .int .i64 0, .int .i64 x177006_5, .slice Ao71 x177007_6.length co71] (0, 0) _ rfl (by (with_reducible repeat (first | refine blk_drewN ?_ _ | refine blk_drew ?_ | refine blk_alloc ?_ _)); refine blk_put (cs := #[.int .i64 x9_27, .int .i64 x10_27, .int .i64 (wrap64 ((wrap64 (x11_27 - x9_27)) + 1)), .int .i64 (wrap64 ((wrap64 (x12_27 - x10_27)) + 1)), .int .i64 0, .int .i64 0, .int .i64 x177006_5, .slice none 0 0]) ?_ 7 _ rfl; (with_reducible repeat (first | refine blk_drewN ?_ _ | refine blk_drew ?_ | refine blk_alloc ?_ _)); refine blk_put (cs := #[.int .i64 x9_27, .int .i64 x10_27, .int .i64 (wrap64 ((wrap64 (x11_27 - x9_27)) + 1)), .int .i64 (wrap64 ((wrap64 (x12_27 - x10_27)) + 1)), .int .i64 0, .int .i64 0, .int .i64 0, .slice none 0 0]) ?_ 6 _ rfl; (with_reducible repeat (first | refine blk_drewN ?_ _ | refine blk_drew ?_ | refine blk_alloc ?_ _)); refine blk_put (cs := #[.int .i64 x9_27, .int .i64 x10_27, .int .i64 (wrap64 ((wrap64 (x11_27 - x9_27)) + 1)), .int .i64 (wrap64 ((wrap64 (x12_27 - x10_27)) + 1)), .int .i64 0, .int .i64 0, .int .i64 0, .slice none 0 0]) ?_ 5 _ rfl; (with_reducible repeat (first | refine blk_drewN ?_ _ | refine blk_drew ?_ | refine blk_alloc ?_ _)); refine blk_put (cs := #[.int .i64 x9_27, .int .i64 x10_27, .int .i64 (wrap64 ((wrap64 (x11_27 - x9_27)) + 1)), .int .i64 (wrap64 ((wrap64 (x12_27 - x10_27)) + 1)), .int .i64 0, .int .i64 0, .int .i64 0, .slice none 0 0]) ?_ 4 _ rfl; (with_reducible repeat (first | refine blk_drewN ?_ _ | refine blk_drew ?_ | refine blk_alloc ?_ _)); refine blk_put (cs := #[.int .i64 x9_27, .int .i64 x10_27, .int .i64 (wrap64 ((wrap64 (x11_27 - x9_27)) + 1)), .int .i64 0, .int .i64 0, .int .i64 0, .int .i64 0, .slice none 0 0]) ?_ 3 _ rfl; (with_reducible repeat (first | refine blk_drewN ?_ _ | refine blk_drew ?_ | refine blk_alloc ?_ _)); refine blk_put (cs := #[.int .i64 x9_27, .int .i64 x10_27, .int .i64 0, .int .i64 0, .int .i64 0, .int .i64 0, .int .i64 0, .slice none 0 0]) ?_ 2 _ rfl; (with_reducible repeat (first | refine blk_drewN ?_ _ | refine blk_drew ?_ | refine blk_alloc ?_ _)); refine blk_put (cs := #[.int .i64 x9_27, .int .i64 0, .int .i64 0, .int .i64 0, .int .i64 0, .int .i64 0, .int .i64 0, .slice none 0 0]) ?_ 1 _ rfl; (with_reducible repeat (first | refine blk_drewN ?_ _ | refine blk_drew ?_ | refine blk_alloc ?_ _)); refine blk_put (cs := #[.int .i64 0, .int .i64 0, .int .i64 0, .int .i64 0, .int .i64 0, .int .i64 0, .int .i64 0, .slice none 0 0]) ?_ 0 _ rfl; (with_reducible repeat (first | refine blk_drewN ?_ _ | refine blk_drew ?_ | refine blk_alloc ?_ _)); exact BK170.out) Try.underlying50 rfl (by kernel_rfl)) rfl ?_
                            exact ⟨_, by first | rfl | (simp [errW_none, errW_some] <;> rfl) | (simp [*, errW_none, errW_some] <;> rfl), by (with_reducible repeat (first | apply Kd.R_alloc | apply Kd.R_drewN | apply Kd.R_drew)); exact Kd.R_mono (Kd.R_far (p := ⟨gb170, 7, none⟩) (Kd.R_far (p := ⟨gb170, 6, none⟩) (Kd.R_far (p := ⟨gb170, 5, none⟩) (Kd.R_far (p := ⟨gb170, 4, none⟩) (Kd.R_far (p := ⟨gb170, 3, none⟩) (Kd.R_far (p := ⟨gb170, 2, none⟩) (Kd.R_far (p := ⟨gb170, 1, none⟩) (Kd.R_far (p := ⟨gb170, 0, none⟩) (Kd.R_types HO_177007.out BK170.out (by decide)) (fun _ hk => hk.2) (.int .i64 x9_27)) (fun _ hk => hk.2) (.int .i64 x10_27)) (fun _ hk => hk.2) (.int .i64 (wrap64 ((wrap64 (x11_27 - x9_27)) + 1)))) (fun _ hk => hk.2) (.int .i64 (wrap64 ((wrap64 (x12_27 - x10_27)) + 1)))) (fun _ hk => hk.2) (.int .i64 0)) (fun _ hk => hk.2) (.int .i64 0)) (fun _ hk => hk.2) (.int .i64 x177006_5)) (fun _ hk => hk.2) (.slice Ao71 x177007_6.length co71)) (fun _ hk => trivial), by repeat (first | (with_reducible first | exact HB.out | apply below_alloc | apply pw_below_drewN | apply below_drew1 | refine below_set ?_ GE170.out | refine below_set ?_ GE176.out) | exact HB.out)⟩
                          rw [if_pos c72] at H
                          have c72b0 : decide (x150_6 < (x177007_4.length : Int)) = true := decide_eq_true c72
                          (try simp only [hl177007_6] at c72b0)
                          clear c72
                          by_cases c73 : 0 ≤ x150_6
                          rotate_left
                          · rw [if_neg c73] at H
                            exact absurd H (by simp)
                          rw [if_pos c73] at H
                          have c73b0 : decide (0 ≤ x150_6) = true := decide_eq_true c73
                          clear c73
                          by_cases c74 : x150_6 < (x177007_6.length : Int)
                          rotate_left
                          · rw [if_neg c74] at H
                            exact absurd H (by simp)
                          rw [if_pos c74] at H
                          have c74b0 : decide (x150_6 < (x177007_6.length : Int)) = true := decide_eq_true c74
                          (try simp only [hl177007_6] at c74b0)
                          clear c74
                          by_cases c75 : (rd x177007_6 x150_6) < 0
                          rotate_left
                          · rw [if_neg c75] at H
                            have c75b0 : decide ((rd x177007_6 x150_6) < 0) = false := decide_eq_false c75
                            clear c75
                            have H' := Aside0.mk H
                            clear H
                            have hnb81 := NB176_170.out
                            have hnc81 := NB170_176.out
                            have hcz82_0 : wr.cell? ⟨gb176, 0, none⟩ = some (.int .i64 x9_27) := (blk_cell BK176.out 0).trans rfl
                            have hcz82_1 : wr.cell? ⟨gb176, 1, none⟩ = some (.int .i64 x10_27) := (blk_cell BK176.out 1).trans rfl
                            have hcz82_2 : wr.cell? ⟨gb176, 2, none⟩ = some (.int .i64 (wrap64 ((wrap64 (x11_27 - x9_27)) + 1))) := (blk_cell BK176.out 2).trans rfl
                            have hcz82_3 : wr.cell? ⟨gb176, 3, none⟩ = some (.int .i64 (wrap64 ((wrap64 (x12_27 - x10_27)) + 1))) := (blk_cell BK176.out 3).trans rfl
                            have hcz82_4 : wr.cell? ⟨gb176, 4, none⟩ = some (.int .i64 0) := (blk_cell BK176.out 4).trans rfl
                            have hcz82_5 : wr.cell? ⟨gb176, 5, none⟩ = some (.int .i64 0) := (blk_cell BK176.out 5).trans rfl
                            have hcz82_6 : wr.cell? ⟨gb176, 6, none⟩ = some (.int .i64 x177006_5) := (blk_cell BK176.out 6).trans rfl
                            have hcz82_7 : wr.cell? ⟨gb176, 7, none⟩ = some (.slice Ao71 x177007_6.length co71) := (blk_cell BK176.out 7).trans rfl
                            have hfz82_0 := blk_frozen BK176.out 0
                            have hfz82_1 := blk_frozen BK176.out 1
                            have hfz82_2 := blk_frozen BK176.out 2
                            have hfz82_3 := blk_frozen BK176.out 3
                            have hfz82_4 := blk_frozen BK176.out 4
                            have hfz82_5 := blk_frozen BK176.out 5
                            have hfz82_6 := blk_frozen BK176.out 6
                            have hfz82_7 := blk_frozen BK176.out 7
                            have p189 : 0 ≤ (x150_6 : Int) := of_decide_eq_true (by first | (with_reducible assumption) | assumption)
                            have q189 : x150_6 < (x177007_6.length : Int) := of_decide_eq_true (by first | (with_reducible assumption) | assumption)
                            obtain ⟨ad189, e189, hx189_0⟩ := Kd.at_int (Kd.R_reads' HO_177007.out).2.2 x150_6 p189 q189
                            cases e189
                            replace p189 := eq_true p189
                            replace q189 := eq_true q189
                            go_wp2
                            repeat (go_quiet (fail); try go_wp2)
                            (try simp only [← hl177007_6])
                            go_roundg k6
                            case measure => have := HJ4.out; have := HK2.out; have := HJ27.out; have := HK4.out; have := HK5.out; have := HK6.out; omega
                            case rel => exact ⟨(wrap64 (x150_6 + 1)), (x177007_6), (by first | rfl | (simp; done) | (simp [*]; done)), H', ⟨by have := HJ4.out; have := HK2.out; have := HJ27.out; have := HK4.out; have := HK5.out; have := HK6.out; omega⟩, ⟨by (try simp only [hl177007_6]); (with_reducible repeat (first | apply Kd.R_alloc | apply Kd.R_drewN | apply Kd.R_drew)); exact HO_177007.out⟩, ⟨by (try simp only [hl177007_6]); (with_reducible repeat (first | refine blk_drewN ?_ _ | refine blk_drew ?_ | refine blk_alloc ?_ _)); exact BK170.out⟩, ⟨by (try simp only [hl177007_6]); (with_reducible repeat (first | refine blk_drewN ?_ _ | refine blk_drew ?_ | refine blk_alloc ?_ _)); exact BK176.out⟩, ⟨by repeat (first | (with_reducible first | exact HB.out | apply below_alloc | apply pw_below_drewN | apply below_drew1 | refine below_set ?_ GE170.out | refine below_set ?_ GE176.out) | exact HB.out)⟩⟩
                          rw [if_pos c75] at H
                          have c75b0 : decide ((rd x177007_6 x150_6) < 0) = true := decide_eq_true c75
                          clear c75
                          obtain ⟨y190, hy190⟩ : ∃ y_ : List Int, y_ = (x177007_6.set (x150_6 : Int).toNat x177006_5) := ⟨_, rfl⟩
                          replace H : (spec_Between.l4 k6 (x177007_4.length : Int) (wrap64 (x150_6 + 1)) x9_27 x10_27 (wrap64 ((wrap64 (x11_27 - x9_27)) + 1)) (wrap64 ((wrap64 (x12_27 - x10_27)) + 1)) 0 0 x177006_5 y190) = some (r1, r2, r3, r4, r5, r6, r7, r8) := by first | (rw [hy190]; with_reducible exact H) | (have H2_ := (Option.bind_some _ _).symm.trans H; rw [hy190]; with_reducible exact H2_) | (have H2_ := (Option.bind_some _ _).symm.trans H; with_reducible exact H2_) | with_reducible exact H | (rw [hy190]; exact H) | exact H
                          have Ny190 := Aside0.mk hy190
                          clear hy190
                          have H' := Aside0.mk H
                          clear H
                          have hnb77 := NB176_170.out
                          have hnc77 := NB170_176.out
                          have hcz78_0 : wr.cell? ⟨gb176, 0, none⟩ = some (.int .i64 x9_27) := (blk_cell BK176.out 0).trans rfl
                          have hcz78_1 : wr.cell? ⟨gb176, 1, none⟩ = some (.int .i64 x10_27) := (blk_cell BK176.out 1).trans rfl
                          have hcz78_2 : wr.cell? ⟨gb176, 2, none⟩ = some (.int .i64 (wrap64 ((wrap64 (x11_27 - x9_27)) + 1))) := (blk_cell BK176.out 2).trans rfl
                          have hcz78_3 : wr.cell? ⟨gb176, 3, none⟩ = some (.int .i64 (wrap64 ((wrap64 (x12_27 - x10_27)) + 1))) := (blk_cell BK176.out 3).trans rfl
                          have hcz78_4 : wr.cell? ⟨gb176, 4, none⟩ = some (.int .i64 0) := (blk_cell BK176.out 4).trans rfl
                          have hcz78_5 : wr.cell? ⟨gb176, 5, none⟩ = some (.int .i64 0) := (blk_cell BK176.out 5).trans rfl
                          have hcz78_6 : wr.cell? ⟨gb176, 6, none⟩ = some (.int .i64 x177006_5) := (blk_cell BK176.out 6).trans rfl
                          have hcz78_7 : wr.cell? ⟨gb176, 7, none⟩ = some (.slice Ao71 x177007_6.length co71) := (blk_cell BK176.out 7).trans rfl
                          have hfz78_0 := blk_frozen BK176.out 0
                          have hfz78_1 := blk_frozen BK176.out 1
                          have hfz78_2 := blk_frozen BK176.out 2
                          have hfz78_3 := blk_frozen BK176.out 3
                          have hfz78_4 := blk_frozen BK176.out 4
                          have hfz78_5 := blk_frozen BK176.out 5
                          have hfz78_6 := blk_frozen BK176.out 6
                          have hfz78_7 := blk_frozen BK176.out 7
                          have p189 : 0 ≤ (x150_6 : Int) := of_decide_eq_true (by first | (with_reducible assumption) | assumption)
                          have q189 : x150_6 < (x177007_6.length : Int) := of_decide_eq_true (by first | (with_reducible assumption) | assumption)
                          obtain ⟨ad189, e189, hx189_0⟩ := Kd.at_int (Kd.R_reads' HO_177007.out).2.2 x150_6 p189 q189
                          cases e189
                          replace p189 := eq_true p189
                          replace q189 := eq_true q189
                          have p76 : 0 ≤ (x150_6 : Int) := of_decide_eq_true (by first | (with_reducible assumption) | assumption)
                          have q76 : (x150_6 : Int) < ((x177007_6.length : Int) : Int) := of_decide_eq_true (by first | (with_reducible assumption) | assumption)
                          obtain ⟨go76, co76, eo76, gb76, gl76, cl76, HG76⟩ := Kd.R_form HO_177007.out (by omega)
                          (first | cases eo76 | (injection eo76 with ea_ en_ ec_; (first | subst ea_ | (injection ea_ with ea_; subst ea_)); subst ec_; clear en_))
                          have GB76 := Aside0.mk gb76
                          have GG76 := Aside0.mk HG76
                          clear gb76 gl76 HG76
                          (first | simp only [add_plain] at hx189_0 | skip)
                          obtain ⟨hx76_0, hf76_0⟩ := Kd.R_celln 0 HO_177007.out (x150_6 : Int) p76 q76
                          replace p76 := eq_true p76
                          replace q76 := eq_true q76
                          have HP79 := Kd.R_putg HO_177007.out (x150_6 : Int) x177006_5
                          iterate 3 (try go_wp2_with (first | ((with_reducible refine gate_store (t := 3) (p := 164) rfl ?_); (try (rw [drewN_self wr]; generalize hq_ : World.drewN wr _ = wr; have n0_ := Aside0.mk (Kd.R_at hq_ HO_177007.out); have n1_ := Aside0.mk (blk_at hq_ BK170.out); have n2_ := Aside0.mk (blk_at hq_ BK176.out); have n3_ := Aside0.mk (below_at hq_ HB.out); clear hq_ HO_177007 BK170 BK176 HB; have HO_177007 := n0_; have BK170 := n1_; have BK176 := n2_; have HB := n3_; clear n0_ n1_ n2_ n3_; (try (have HP79 := Kd.R_putg HO_177007.out (x150_6 : Int) x177006_5)))); refine store_event (t := 3) (p := 164) (v := ?vo_w80) (w1 := (wr.setCell ⟨go76, (x150_6 : Int).toNat, none⟩ (.int .i64 x177006_5))) ?hg ?ho ?hn ?hr ?_; (case ho => rfl); (case hg => rfl); (case hn => rfl); (case hr => first | (go_simp; done) | (go_simp; rfl)); intro w80 hw; have hg : wr.grownBy w80 (some go76) := (by rw [hw]; exact HP79.2); have hp_ : Kd.R (Kd.int .i64) 3 w80 w.heap.size (fun _ => True) (.slice (some ⟨go76, 0, none⟩) x177007_6.length co71) y190 := (by rw [hw, Ny190.out]; exact HP79.1); clear HP79; have n0_ := Aside0.mk (hp_); have n1_ := Aside0.mk (blk_grown (g := gb170) (o := .cells #[.int .i64 0, .int .i64 0, .int .i64 0, .int .i64 0, .int .i64 0, .int .i64 0, .int .i64 0, .slice none 0 0] 50 (0, 0)) (by (with_reducible repeat (first | refine blk_drewN ?_ _ | refine blk_drew ?_ | refine blk_alloc ?_ _)); exact BK170.out) hg (Kd.R_ne HO_177007.out BK170.out (by decide))); have n2_ := Aside0.mk (blk_grown (g := gb176) (o := .cells #[.int .i64 x9_27, .int .i64 x10_27, .int .i64 (wrap64 ((wrap64 (x11_27 - x9_27)) + 1)), .int .i64 (wrap64 ((wrap64 (x12_27 - x10_27)) + 1)), .int .i64 0, .int .i64 0, .int .i64 x177006_5, .slice (some ⟨go76, 0, none⟩) x177007_6.length co71] 50 (0, 0)) (by (with_reducible repeat (first | refine blk_drewN ?_ _ | refine blk_drew ?_ | refine blk_alloc ?_ _)); exact BK176.out) hg (Kd.R_ne HO_177007.out BK176.out (by decide))); have n3_ := Aside0.mk ((by rw [hw]; exact below_set (HB.out) GB76.out : Below w.heap.size w w80)); clear HO_177007; clear BK170; clear BK176; clear HB; have HO_177007 := n0_; have BK170 := n1_; have BK176 := n2_; have HB := n3_; clear n0_ n1_ n2_ n3_; clear hg hw hp_)); try go_quiet (first | ((with_reducible refine gate_store (t := 3) (p := 164) rfl ?_); (try (rw [drewN_self wr]; generalize hq_ : World.drewN wr _ = wr; have n0_ := Aside0.mk (Kd.R_at hq_ HO_177007.out); have n1_ := Aside0.mk (blk_at hq_ BK170.out); have n2_ := Aside0.mk (blk_at hq_ BK176.out); have n3_ := Aside0.mk (below_at hq_ HB.out); clear hq_ HO_177007 BK170 BK176 HB; have HO_177007 := n0_; have BK170 := n1_; have BK176 := n2_; have HB := n3_; clear n0_ n1_ n2_ n3_; (try (have HP79 := Kd.R_putg HO_177007.out (x150_6 : Int) x177006_5)))); refine store_event (t := 3) (p := 164) (v := ?vo_w80) (w1 := (wr.setCell ⟨go76, (x150_6 : Int).toNat, none⟩ (.int .i64 x177006_5))) ?hg ?ho ?hn ?hr ?_; (case ho => rfl); (case hg => rfl); (case hn => rfl); (case hr => first | (go_simp; done) | (go_simp; rfl)); intro w80 hw; have hg : wr.grownBy w80 (some go76) := (by rw [hw]; exact HP79.2); have hp_ : Kd.R (Kd.int .i64) 3 w80 w.heap.size (fun _ => True) (.slice (some ⟨go76, 0, none⟩) x177007_6.length co71) y190 := (by rw [hw, Ny190.out]; exact HP79.1); clear HP79; have n0_ := Aside0.mk (hp_); have n1_ := Aside0.mk (blk_grown (g := gb170) (o := .cells #[.int .i64 0, .int .i64 0, .int .i64 0, .int .i64 0, .int .i64 0, .int .i64 0, .int .i64 0, .slice none 0 0] 50 (0, 0)) (by (with_reducible repeat (first | refine blk_drewN ?_ _ | refine blk_drew ?_ | refine blk_alloc ?_ _)); exact BK170.out) hg (Kd.R_ne HO_177007.out BK170.out (by decide))); have n2_ := Aside0.mk (blk_grown (g := gb176) (o := .cells #[.int .i64 x9_27, .int .i64 x10_27, .int .i64 (wrap64 ((wrap64 (x11_27 - x9_27)) + 1)), .int .i64 (wrap64 ((wrap64 (x12_27 - x10_27)) + 1)), .int .i64 0, .int .i64 0, .int .i64 x177006_5, .slice (some ⟨go76, 0, none⟩) x177007_6.length co71] 50 (0, 0)) (by (with_reducible repeat (first | refine blk_drewN ?_ _ | refine blk_drew ?_ | refine blk_alloc ?_ _)); exact BK176.out) hg (Kd.R_ne HO_177007.out BK176.out (by decide))); have n3_ := Aside0.mk ((by rw [hw]; exact below_set (HB.out) GB76.out : Below w.heap.size w w80)); clear HO_177007; clear BK170; clear BK176; clear HB; have HO_177007 := n0_; have BK170 := n1_; have BK176 := n2_; have HB := n3_; clear n0_ n1_ n2_ n3_; clear hg hw hp_)))
                          (try simp only [← hl177007_6])
                          go_roundg k6
                          case measure => have := HJ4.out; have := HK2.out; have := HJ27.out; have := HK4.out; have := HK5.out; have := HK6.out; omega
                          case rel => exact ⟨(wrap64 (x150_6 + 1)), (y190), (by first | rfl | (simp; done) | (simp [*]; done)), H', ⟨by have := HJ4.out; have := HK2.out; have := HJ27.out; have := HK4.out; have := HK5.out; have := HK6.out; omega⟩, ⟨by (try simp only [hl177007_6]); (with_reducible repeat (first | apply Kd.R_alloc | apply Kd.R_drewN | apply Kd.R_drew)); exact HO_177007.out⟩, ⟨by (try simp only [hl177007_6]); (with_reducible repeat (first | refine blk_drewN ?_ _ | refine blk_drew ?_ | refine blk_alloc ?_ _)); exact BK170.out⟩, ⟨by (try simp only [hl177007_6]); (with_reducible repeat (first | refine blk_drewN ?_ _ | refine blk_drew ?_ | refine blk_alloc ?_ _)); exact BK176.out⟩, ⟨by repeat (first | (with_reducible first | exact HB.out | apply below_alloc | apply pw_below_drewN | apply below_drew1 | refine below_set ?_ GE170.out | refine below_set ?_ GE176.out) | exact HB.out)⟩⟩

end Go.Proofs.Ytglaedjadlappaa.PFnBetween

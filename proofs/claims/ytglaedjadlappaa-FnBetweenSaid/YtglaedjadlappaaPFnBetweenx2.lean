-- written by myprint.py (a program of this session's over the kit's print)
import Derived.Test.YtglaedjadlappaaPFnBetweenx0
import Derived.Test.YtglaedjadlappaaPFnBetweenx1
namespace Go.Proofs.Ytglaedjadlappaa.PFnBetween
open Go.RowKit Go.Proofs.YtglaedjadlappaaW.PrintWords Go.Proofs.YtglaedjadlappaaW.PrintLast Go.Proofs.YtglaedjadlappaaW.PrintMore
attribute [local go_sem] max2_int min2_int max_two min_two max_three min_three max_four min_four   -- for this text's walks alone
set_option linter.unusedVariables false
set_option linter.unusedSimpArgs false

/-! ### impl_Between: function 31 -/
mutual
def impl_Between.j0 : Nat → Int → Int → List Int → List Int → Bool → Option (Int × Int × Int × Int × Int × Int × Int × List Int)
  | 0, _, _, _, _, _ => none
  | k + 1, x0, x1, x2, x3, x41 => if x41 = true then (some (0, 0, 0, 0, 0, 0, 0, ([] : List Int))) else (impl_Between.l0 k x0 x2 x3 x0 x1 (-1) (-1) (x2.length : Int) 0)
def impl_Between.l0 : Nat → Int → List Int → List Int → Int → Int → Int → Int → Int → Int → Option (Int × Int × Int × Int × Int × Int × Int × List Int)
  | 0, _, _, _, _, _, _, _, _, _ => none
  | k + 1, x0, x2, x3, x9, x10, x11, x12, x46, x47 => if x47 < x46 then (if 0 ≤ x47 then (if x47 < (x2.length : Int) then (if x47 < (x3.length : Int) then (if (rd x2 x47) = (rd x3 x47) then (impl_Between.l0 k x0 x2 x3 x9 x10 x11 x12 x46 (wrap64 (x47 + 1))) else (if x0 = 0 then (none) else (impl_Between.l0 k x0 x2 x3 (mn x9 (Int.tmod x47 x0)) (mn x10 (wrap64 (Int.tdiv x47 x0))) (mx x11 (Int.tmod x47 x0)) (mx x12 (wrap64 (Int.tdiv x47 x0))) x46 (wrap64 (x47 + 1))))) else (none)) else (none)) else (none)) else (if x11 < 0 then (impl_Between.j2 k x0 x3 0 0 0 0) else (impl_Between.j2 k x0 x3 x9 x10 x11 x12))
def impl_Between.j2 : Nat → Int → List Int → Int → Int → Int → Int → Option (Int × Int × Int × Int × Int × Int × Int × List Int)
  | 0, _, _, _, _, _, _ => none
  | k + 1, x0, x3, x9, x10, x11, x12 => impl_Between.l1 k x0 x3 x9 x11 x12 (List.replicate 257 false) x10 x9 x10 (wrap64 ((wrap64 (x11 - x9)) + 1)) (wrap64 ((wrap64 (x12 - x10)) + 1)) 0 0 (-1) ([] : List Int)
def impl_Between.l1 : Nat → Int → List Int → Int → Int → Int → List Bool → Int → Int → Int → Int → Int → Int → Int → Int → List Int → Option (Int × Int × Int × Int × Int × Int × Int × List Int)
  | 0, _, _, _, _, _, _, _, _, _, _, _, _, _, _, _ => none
  | k + 1, x0, x3, x9, x11, x12, x15, x16, x157000, x157001, x157002, x157003, x157004, x157005, x157006, x157007 => if x16 ≤ x12 then (impl_Between.l2 k x0 x3 x9 x11 x12 x15 x16 x9 x157000 x157001 x157002 x157003 x157004 x157005 x157006 x157007) else (if rdOf false x15 0 = true then (impl_Between.l3 k x15 0 x157000 x157001 x157002 x157003 x157004 x157005 x157006 x157007) else (some (x157000, x157001, x157002, x157003, x157004, x157005, x157006, x157007)))
def impl_Between.l2 : Nat → Int → List Int → Int → Int → Int → List Bool → Int → Int → Int → Int → Int → Int → Int → Int → Int → List Int → Option (Int × Int × Int × Int × Int × Int × Int × List Int)
  | 0, _, _, _, _, _, _, _, _, _, _, _, _, _, _, _, _ => none
  | k + 1, x0, x3, x9, x11, x12, x15, x16, x17, x157000, x157001, x157002, x157003, x157004, x157005, x157006, x157007 => if x17 ≤ x11 then (if 0 ≤ (wrap64 ((wrap64 (x16 * x0)) + x17)) then (if (wrap64 ((wrap64 (x16 * x0)) + x17)) < (x3.length : Int) then (if x157007.length < 17592186044416 then (if 0 ≤ (wrap64 ((rd x3 (wrap64 ((wrap64 (x16 * x0)) + x17))) + 1)) then (if (wrap64 ((rd x3 (wrap64 ((wrap64 (x16 * x0)) + x17))) + 1)) < 257 then (impl_Between.l2 k x0 x3 x9 x11 x12 (x15.set ((wrap64 ((rd x3 (wrap64 ((wrap64 (x16 * x0)) + x17))) + 1)) : Int).toNat true) x16 (wrap64 (x17 + 1)) x157000 x157001 x157002 x157003 x157004 x157005 x157006 (x157007 ++ [rd x3 (wrap64 ((wrap64 (x16 * x0)) + x17))])) else (none)) else (none)) else (none)) else (none)) else (none)) else (impl_Between.l1 k x0 x3 x9 x11 x12 x15 (wrap64 (x16 + 1)) x157000 x157001 x157002 x157003 x157004 x157005 x157006 x157007)
def impl_Between.j6 : Nat → Int → Int → Int → Int → Int → Int → Int → List Int → Option (Int × Int × Int × Int × Int × Int × Int × List Int)
  | 0, _, _, _, _, _, _, _, _ => none
  | k + 1, x157000, x157001, x157002, x157003, x157004, x157005, x157006, x157007 => impl_Between.l4 k (x157007.length : Int) 0 x157000 x157001 x157002 x157003 x157004 x157005 x157006 x157007
def impl_Between.l4 : Nat → Int → Int → Int → Int → Int → Int → Int → Int → Int → List Int → Option (Int × Int × Int × Int × Int × Int × Int × List Int)
  | 0, _, _, _, _, _, _, _, _, _, _ => none
  | k + 1, x137, x138, x157000, x157001, x157002, x157003, x157004, x157005, x157006, x157007 => if x138 < x137 then (if 0 ≤ x138 then (if x138 < (x157007.length : Int) then (if (rd x157007 x138) < 0 then (impl_Between.l4 k x137 (wrap64 (x138 + 1)) x157000 x157001 x157002 x157003 x157004 x157005 x157006 (x157007.set (x138 : Int).toNat x157006)) else (impl_Between.l4 k x137 (wrap64 (x138 + 1)) x157000 x157001 x157002 x157003 x157004 x157005 x157006 x157007)) else (none)) else (none)) else (some (x157000, x157001, x157002, x157003, x157004, x157005, x157006, x157007))
def impl_Between.l3 : Nat → List Bool → Int → Int → Int → Int → Int → Int → Int → Int → List Int → Option (Int × Int × Int × Int × Int × Int × Int × List Int)
  | 0, _, _, _, _, _, _, _, _, _, _ => none
  | k + 1, x15, x124, x157000, x157001, x157002, x157003, x157004, x157005, x157006, x157007 => if x124 < 256 then (if 0 ≤ (wrap64 (x124 + 1)) then (if (wrap64 (x124 + 1)) < 257 then (if (rdOf false x15 (wrap64 (x124 + 1)) = true) then (impl_Between.l3 k x15 (wrap64 (x124 + 1)) x157000 x157001 x157002 x157003 x157004 x157005 x157006 x157007) else (impl_Between.j6 k x157000 x157001 x157002 x157003 x157004 x157005 x124 x157007)) else (none)) else (none)) else (impl_Between.j6 k x157000 x157001 x157002 x157003 x157004 x157005 x157006 x157007)
end
def impl_Between.f (k : Nat) (a0 : Int) (a1 : Int) (l2 : List Int) (l3 : List Int) : Option (Int × Int × Int × Int × Int × Int × Int × List Int) := (impl_goodSides.f a0 a1).bind fun t151 => (if t151 = true then ((impl_goodScreen.f k l2 (wrap64 (a0 * a1))).bind fun t152 => (if t152 = true then ((impl_goodScreen.f k l3 (wrap64 (a0 * a1))).bind fun t153 => (impl_Between.j0 k a0 a1 l2 l3 (!t153))) else (impl_Between.j0 k a0 a1 l2 l3 true))) else (impl_Between.j0 k a0 a1 l2 l3 true))
theorem impl_Between.mono_l : ∀ k, (∀ y0 y1 y2 y3 y4, LeO (impl_Between.j0 k y0 y1 y2 y3 y4) (impl_Between.j0 (k + 1) y0 y1 y2 y3 y4)) ∧ (∀ y0 y1 y2 y3 y4 y5 y6 y7 y8, LeO (impl_Between.l0 k y0 y1 y2 y3 y4 y5 y6 y7 y8) (impl_Between.l0 (k + 1) y0 y1 y2 y3 y4 y5 y6 y7 y8)) ∧ (∀ y0 y1 y2 y3 y4 y5, LeO (impl_Between.j2 k y0 y1 y2 y3 y4 y5) (impl_Between.j2 (k + 1) y0 y1 y2 y3 y4 y5)) ∧ (∀ y0 y1 y2 y3 y4 y5 y6 y7 y8 y9 y10 y11 y12 y13 y14, LeO (impl_Between.l1 k y0 y1 y2 y3 y4 y5 y6 y7 y8 y9 y10 y11 y12 y13 y14) (impl_Between.l1 (k + 1) y0 y1 y2 y3 y4 y5 y6 y7 y8 y9 y10 y11 y12 y13 y14)) ∧ (∀ y0 y1 y2 y3 y4 y5 y6 y7 y8 y9 y10 y11 y12 y13 y14 y15, LeO (impl_Between.l2 k y0 y1 y2 y3 y4 y5 y6 y7 y8 y9 y10 y11 y12 y13 y14 y15) (impl_Between.l2 (k + 1) y0 y1 y2 y3 y4 y5 y6 y7 y8 y9 y10 y11 y12 y13 y14 y15)) ∧ (∀ y0 y1 y2 y3 y4 y5 y6 y7, LeO (impl_Between.j6 k y0 y1 y2 y3 y4 y5 y6 y7) (impl_Between.j6 (k + 1) y0 y1 y2 y3 y4 y5 y6 y7)) ∧ (∀ y0 y1 y2 y3 y4 y5 y6 y7 y8 y9, LeO (impl_Between.l4 k y0 y1 y2 y3 y4 y5 y6 y7 y8 y9) (impl_Between.l4 (k + 1) y0 y1 y2 y3 y4 y5 y6 y7 y8 y9)) ∧ (∀ y0 y1 y2 y3 y4 y5 y6 y7 y8 y9, LeO (impl_Between.l3 k y0 y1 y2 y3 y4 y5 y6 y7 y8 y9) (impl_Between.l3 (k + 1) y0 y1 y2 y3 y4 y5 y6 y7 y8 y9))
  | 0 => ⟨fun _ _ _ _ _ r h => by simp [impl_Between.j0] at h, fun _ _ _ _ _ _ _ _ _ r h => by simp [impl_Between.l0] at h, fun _ _ _ _ _ _ r h => by simp [impl_Between.j2] at h, fun _ _ _ _ _ _ _ _ _ _ _ _ _ _ _ r h => by simp [impl_Between.l1] at h, fun _ _ _ _ _ _ _ _ _ _ _ _ _ _ _ _ r h => by simp [impl_Between.l2] at h, fun _ _ _ _ _ _ _ _ r h => by simp [impl_Between.j6] at h, fun _ _ _ _ _ _ _ _ _ _ r h => by simp [impl_Between.l4] at h, fun _ _ _ _ _ _ _ _ _ _ r h => by simp [impl_Between.l3] at h⟩
  | k + 1 => by
    obtain ⟨ih0, ih1, ih2, ih3, ih4, ih5, ih6, ih7⟩ := impl_Between.mono_l k
    refine ⟨?_, ?_, ?_, ?_, ?_, ?_, ?_, ?_⟩
    · intro y0 y1 y2 y3 y4
      unfold impl_Between.j0
      repeat' first
      | (with_reducible exact ih0 _ _ _ _ _)
      | (with_reducible exact ih1 _ _ _ _ _ _ _ _ _)
      | (with_reducible exact ih2 _ _ _ _ _ _)
      | (with_reducible exact ih3 _ _ _ _ _ _ _ _ _ _ _ _ _ _ _)
      | (with_reducible exact ih4 _ _ _ _ _ _ _ _ _ _ _ _ _ _ _ _)
      | (with_reducible exact ih5 _ _ _ _ _ _ _ _)
      | (with_reducible exact ih6 _ _ _ _ _ _ _ _ _ _)
      | (with_reducible exact ih7 _ _ _ _ _ _ _ _ _ _)
      | (with_reducible exact impl_goodScreen.mono _ _ _)
      | (with_reducible exact LeO.refl _)
      | (with_reducible exact LeO.none _)
      | (with_reducible refine LeO.ite ?_ ?_)
      | (with_reducible refine LeO.bind ?_ (fun _ => ?_))
      | exact ih0 _ _ _ _ _
      | exact ih1 _ _ _ _ _ _ _ _ _
      | exact ih2 _ _ _ _ _ _
      | exact ih3 _ _ _ _ _ _ _ _ _ _ _ _ _ _ _
      | exact ih4 _ _ _ _ _ _ _ _ _ _ _ _ _ _ _ _
      | exact ih5 _ _ _ _ _ _ _ _
      | exact ih6 _ _ _ _ _ _ _ _ _ _
      | exact ih7 _ _ _ _ _ _ _ _ _ _
      | exact impl_goodScreen.mono _ _ _
      | exact LeO.none _
      | refine LeO.ite ?_ ?_
      | refine LeO.bind ?_ (fun _ => ?_)
    · intro y0 y1 y2 y3 y4 y5 y6 y7 y8
      unfold impl_Between.l0
      repeat' first
      | (with_reducible exact ih0 _ _ _ _ _)
      | (with_reducible exact ih1 _ _ _ _ _ _ _ _ _)
      | (with_reducible exact ih2 _ _ _ _ _ _)
      | (with_reducible exact ih3 _ _ _ _ _ _ _ _ _ _ _ _ _ _ _)
      | (with_reducible exact ih4 _ _ _ _ _ _ _ _ _ _ _ _ _ _ _ _)
      | (with_reducible exact ih5 _ _ _ _ _ _ _ _)
      | (with_reducible exact ih6 _ _ _ _ _ _ _ _ _ _)
      | (with_reducible exact ih7 _ _ _ _ _ _ _ _ _ _)
      | (with_reducible exact impl_goodScreen.mono _ _ _)
      | (with_reducible exact LeO.refl _)
      | (with_reducible exact LeO.none _)
      | (with_reducible refine LeO.ite ?_ ?_)
      | (with_reducible refine LeO.bind ?_ (fun _ => ?_))
      | exact ih0 _ _ _ _ _
      | exact ih1 _ _ _ _ _ _ _ _ _
      | exact ih2 _ _ _ _ _ _
      | exact ih3 _ _ _ _ _ _ _ _ _ _ _ _ _ _ _
      | exact ih4 _ _ _ _ _ _ _ _ _ _ _ _ _ _ _ _
      | exact ih5 _ _ _ _ _ _ _ _
      | exact ih6 _ _ _ _ _ _ _ _ _ _
      | exact ih7 _ _ _ _ _ _ _ _ _ _
      | exact impl_goodScreen.mono _ _ _
      | exact LeO.none _
      | refine LeO.ite ?_ ?_
      | refine LeO.bind ?_ (fun _ => ?_)
    · intro y0 y1 y2 y3 y4 y5
      unfold impl_Between.j2
      repeat' first
      | (with_reducible exact ih0 _ _ _ _ _)
      | (with_reducible exact ih1 _ _ _ _ _ _ _ _ _)
      | (with_reducible exact ih2 _ _ _ _ _ _)
      | (with_reducible exact ih3 _ _ _ _ _ _ _ _ _ _ _ _ _ _ _)
      | (with_reducible exact ih4 _ _ _ _ _ _ _ _ _ _ _ _ _ _ _ _)
      | (with_reducible exact ih5 _ _ _ _ _ _ _ _)
      | (with_reducible exact ih6 _ _ _ _ _ _ _ _ _ _)
      | (with_reducible exact ih7 _ _ _ _ _ _ _ _ _ _)
      | (with_reducible exact impl_goodScreen.mono _ _ _)
      | (with_reducible exact LeO.refl _)
      | (with_reducible exact LeO.none _)
      | (with_reducible refine LeO.ite ?_ ?_)
      | (with_reducible refine LeO.bind ?_ (fun _ => ?_))
      | exact ih0 _ _ _ _ _
      | exact ih1 _ _ _ _ _ _ _ _ _
      | exact ih2 _ _ _ _ _ _
      | exact ih3 _ _ _ _ _ _ _ _ _ _ _ _ _ _ _
      | exact ih4 _ _ _ _ _ _ _ _ _ _ _ _ _ _ _ _
      | exact ih5 _ _ _ _ _ _ _ _
      | exact ih6 _ _ _ _ _ _ _ _ _ _
      | exact ih7 _ _ _ _ _ _ _ _ _ _
      | exact impl_goodScreen.mono _ _ _
      | exact LeO.none _
      | refine LeO.ite ?_ ?_
      | refine LeO.bind ?_ (fun _ => ?_)
    · intro y0 y1 y2 y3 y4 y5 y6 y7 y8 y9 y10 y11 y12 y13 y14
      unfold impl_Between.l1
      repeat' first
      | (with_reducible exact ih0 _ _ _ _ _)
      | (with_reducible exact ih1 _ _ _ _ _ _ _ _ _)
      | (with_reducible exact ih2 _ _ _ _ _ _)
      | (with_reducible exact ih3 _ _ _ _ _ _ _ _ _ _ _ _ _ _ _)
      | (with_reducible exact ih4 _ _ _ _ _ _ _ _ _ _ _ _ _ _ _ _)
      | (with_reducible exact ih5 _ _ _ _ _ _ _ _)
      | (with_reducible exact ih6 _ _ _ _ _ _ _ _ _ _)
      | (with_reducible exact ih7 _ _ _ _ _ _ _ _ _ _)
      | (with_reducible exact impl_goodScreen.mono _ _ _)
      | (with_reducible exact LeO.refl _)
      | (with_reducible exact LeO.none _)
      | (with_reducible refine LeO.ite ?_ ?_)
      | (with_reducible refine LeO.bind ?_ (fun _ => ?_))
      | exact ih0 _ _ _ _ _
      | exact ih1 _ _ _ _ _ _ _ _ _
      | exact ih2 _ _ _ _ _ _
      | exact ih3 _ _ _ _ _ _ _ _ _ _ _ _ _ _ _
      | exact ih4 _ _ _ _ _ _ _ _ _ _ _ _ _ _ _ _
      | exact ih5 _ _ _ _ _ _ _ _
      | exact ih6 _ _ _ _ _ _ _ _ _ _
      | exact ih7 _ _ _ _ _ _ _ _ _ _
      | exact impl_goodScreen.mono _ _ _
      | exact LeO.none _
      | refine LeO.ite ?_ ?_
      | refine LeO.bind ?_ (fun _ => ?_)
    · intro y0 y1 y2 y3 y4 y5 y6 y7 y8 y9 y10 y11 y12 y13 y14 y15
      unfold impl_Between.l2
      repeat' first
      | (with_reducible exact ih0 _ _ _ _ _)
      | (with_reducible exact ih1 _ _ _ _ _ _ _ _ _)
      | (with_reducible exact ih2 _ _ _ _ _ _)
      | (with_reducible exact ih3 _ _ _ _ _ _ _ _ _ _ _ _ _ _ _)
      | (with_reducible exact ih4 _ _ _ _ _ _ _ _ _ _ _ _ _ _ _ _)
      | (with_reducible exact ih5 _ _ _ _ _ _ _ _)
      | (with_reducible exact ih6 _ _ _ _ _ _ _ _ _ _)
      | (with_reducible exact ih7 _ _ _ _ _ _ _ _ _ _)
      | (with_reducible exact impl_goodScreen.mono _ _ _)
      | (with_reducible exact LeO.refl _)
      | (with_reducible exact LeO.none _)
      | (with_reducible refine LeO.ite ?_ ?_)
      | (with_reducible refine LeO.bind ?_ (fun _ => ?_))
      | exact ih0 _ _ _ _ _
      | exact ih1 _ _ _ _ _ _ _ _ _
      | exact ih2 _ _ _ _ _ _
      | exact ih3 _ _ _ _ _ _ _ _ _ _ _ _ _ _ _
      | exact ih4 _ _ _ _ _ _ _ _ _ _ _ _ _ _ _ _
      | exact ih5 _ _ _ _ _ _ _ _
      | exact ih6 _ _ _ _ _ _ _ _ _ _
      | exact ih7 _ _ _ _ _ _ _ _ _ _
      | exact impl_goodScreen.mono _ _ _
      | exact LeO.none _
      | refine LeO.ite ?_ ?_
      | refine LeO.bind ?_ (fun _ => ?_)
    · intro y0 y1 y2 y3 y4 y5 y6 y7
      unfold impl_Between.j6
      repeat' first
      | (with_reducible exact ih0 _ _ _ _ _)
      | (with_reducible exact ih1 _ _ _ _ _ _ _ _ _)
      | (with_reducible exact ih2 _ _ _ _ _ _)
      | (with_reducible exact ih3 _ _ _ _ _ _ _ _ _ _ _ _ _ _ _)
      | (with_reducible exact ih4 _ _ _ _ _ _ _ _ _ _ _ _ _ _ _ _)
      | (with_reducible exact ih5 _ _ _ _ _ _ _ _)
      | (with_reducible exact ih6 _ _ _ _ _ _ _ _ _ _)
      | (with_reducible exact ih7 _ _ _ _ _ _ _ _ _ _)
      | (with_reducible exact impl_goodScreen.mono _ _ _)
      | (with_reducible exact LeO.refl _)
      | (with_reducible exact LeO.none _)
      | (with_reducible refine LeO.ite ?_ ?_)
      | (with_reducible refine LeO.bind ?_ (fun _ => ?_))
      | exact ih0 _ _ _ _ _
      | exact ih1 _ _ _ _ _ _ _ _ _
      | exact ih2 _ _ _ _ _ _
      | exact ih3 _ _ _ _ _ _ _ _ _ _ _ _ _ _ _
      | exact ih4 _ _ _ _ _ _ _ _ _ _ _ _ _ _ _ _
      | exact ih5 _ _ _ _ _ _ _ _
      | exact ih6 _ _ _ _ _ _ _ _ _ _
      | exact ih7 _ _ _ _ _ _ _ _ _ _
      | exact impl_goodScreen.mono _ _ _
      | exact LeO.none _
      | refine LeO.ite ?_ ?_
      | refine LeO.bind ?_ (fun _ => ?_)
    · intro y0 y1 y2 y3 y4 y5 y6 y7 y8 y9
      unfold impl_Between.l4
      repeat' first
      | (with_reducible exact ih0 _ _ _ _ _)
      | (with_reducible exact ih1 _ _ _ _ _ _ _ _ _)
      | (with_reducible exact ih2 _ _ _ _ _ _)
      | (with_reducible exact ih3 _ _ _ _ _ _ _ _ _ _ _ _ _ _ _)
      | (with_reducible exact ih4 _ _ _ _ _ _ _ _ _ _ _ _ _ _ _ _)
      | (with_reducible exact ih5 _ _ _ _ _ _ _ _)
      | (with_reducible exact ih6 _ _ _ _ _ _ _ _ _ _)
      | (with_reducible exact ih7 _ _ _ _ _ _ _ _ _ _)
      | (with_reducible exact impl_goodScreen.mono _ _ _)
      | (with_reducible exact LeO.refl _)
      | (with_reducible exact LeO.none _)
      | (with_reducible refine LeO.ite ?_ ?_)
      | (with_reducible refine LeO.bind ?_ (fun _ => ?_))
      | exact ih0 _ _ _ _ _
      | exact ih1 _ _ _ _ _ _ _ _ _
      | exact ih2 _ _ _ _ _ _
      | exact ih3 _ _ _ _ _ _ _ _ _ _ _ _ _ _ _
      | exact ih4 _ _ _ _ _ _ _ _ _ _ _ _ _ _ _ _
      | exact ih5 _ _ _ _ _ _ _ _
      | exact ih6 _ _ _ _ _ _ _ _ _ _
      | exact ih7 _ _ _ _ _ _ _ _ _ _
      | exact impl_goodScreen.mono _ _ _
      | exact LeO.none _
      | refine LeO.ite ?_ ?_
      | refine LeO.bind ?_ (fun _ => ?_)
    · intro y0 y1 y2 y3 y4 y5 y6 y7 y8 y9
      unfold impl_Between.l3
      repeat' first
      | (with_reducible exact ih0 _ _ _ _ _)
      | (with_reducible exact ih1 _ _ _ _ _ _ _ _ _)
      | (with_reducible exact ih2 _ _ _ _ _ _)
      | (with_reducible exact ih3 _ _ _ _ _ _ _ _ _ _ _ _ _ _ _)
      | (with_reducible exact ih4 _ _ _ _ _ _ _ _ _ _ _ _ _ _ _ _)
      | (with_reducible exact ih5 _ _ _ _ _ _ _ _)
      | (with_reducible exact ih6 _ _ _ _ _ _ _ _ _ _)
      | (with_reducible exact ih7 _ _ _ _ _ _ _ _ _ _)
      | (with_reducible exact impl_goodScreen.mono _ _ _)
      | (with_reducible exact LeO.refl _)
      | (with_reducible exact LeO.none _)
      | (with_reducible refine LeO.ite ?_ ?_)
      | (with_reducible refine LeO.bind ?_ (fun _ => ?_))
      | exact ih0 _ _ _ _ _
      | exact ih1 _ _ _ _ _ _ _ _ _
      | exact ih2 _ _ _ _ _ _
      | exact ih3 _ _ _ _ _ _ _ _ _ _ _ _ _ _ _
      | exact ih4 _ _ _ _ _ _ _ _ _ _ _ _ _ _ _ _
      | exact ih5 _ _ _ _ _ _ _ _
      | exact ih6 _ _ _ _ _ _ _ _ _ _
      | exact ih7 _ _ _ _ _ _ _ _ _ _
      | exact impl_goodScreen.mono _ _ _
      | exact LeO.none _
      | refine LeO.ite ?_ ?_
      | refine LeO.bind ?_ (fun _ => ?_)
theorem impl_Between.mono : ∀ a0 a1 a2 a3 k, LeO (impl_Between.f k a0 a1 a2 a3) (impl_Between.f (k + 1) a0 a1 a2 a3) := by
  intro a0 a1 a2 a3 k
  obtain ⟨ih0, ih1, ih2, ih3, ih4, ih5, ih6, ih7⟩ := impl_Between.mono_l k
  unfold impl_Between.f
  repeat' first
      | (with_reducible exact ih0 _ _ _ _ _)
      | (with_reducible exact ih1 _ _ _ _ _ _ _ _ _)
      | (with_reducible exact ih2 _ _ _ _ _ _)
      | (with_reducible exact ih3 _ _ _ _ _ _ _ _ _ _ _ _ _ _ _)
      | (with_reducible exact ih4 _ _ _ _ _ _ _ _ _ _ _ _ _ _ _ _)
      | (with_reducible exact ih5 _ _ _ _ _ _ _ _)
      | (with_reducible exact ih6 _ _ _ _ _ _ _ _ _ _)
      | (with_reducible exact ih7 _ _ _ _ _ _ _ _ _ _)
      | (with_reducible exact impl_goodScreen.mono _ _ _)
      | (with_reducible exact LeO.refl _)
      | (with_reducible exact LeO.none _)
      | (with_reducible refine LeO.ite ?_ ?_)
      | (with_reducible refine LeO.bind ?_ (fun _ => ?_))
      | exact ih0 _ _ _ _ _
      | exact ih1 _ _ _ _ _ _ _ _ _
      | exact ih2 _ _ _ _ _ _
      | exact ih3 _ _ _ _ _ _ _ _ _ _ _ _ _ _ _
      | exact ih4 _ _ _ _ _ _ _ _ _ _ _ _ _ _ _ _
      | exact ih5 _ _ _ _ _ _ _ _
      | exact ih6 _ _ _ _ _ _ _ _ _ _
      | exact ih7 _ _ _ _ _ _ _ _ _ _
      | exact impl_goodScreen.mono _ _ _
      | exact LeO.none _
      | refine LeO.ite ?_ ?_
      | refine LeO.bind ?_ (fun _ => ?_)
set_option maxHeartbeats 8000000 in
set_option maxRecDepth 100000 in
theorem impl_Between.calls (k : Nat) (a0 : Int) (a1 : Int) (A2 : Option Addr) (c2 : Nat) (l2 : List Int) (A3 : Option Addr) (c3 : Nat) (l3 : List Int) (r1 : Int) (r2 : Int) (r3 : Int) (r4 : Int) (r5 : Int) (r6 : Int) (r7 : Int) (r8 : List Int) (w : World) (hr2 : Kd.C (Kd.int .i64) w A2 l2.length l2) (hc2 : l2.length ≤ c2) (hr3 : Kd.C (Kd.int .i64) w A3 l3.length l3) (hc3 : l3.length ≤ c3) (h : impl_Between.f k a0 a1 l2 l3 = some (r1, r2, r3, r4, r5, r6, r7, r8)) :
    Calls Try.prog 31 #[.int .i64 a0, .int .i64 a1, .slice A2 l2.length c2, .slice A3 l3.length c3] w fun e w' => ∃ v7_ : Value, e = .returned (.agg #[.int .i64 r1, .int .i64 r2, .int .i64 r3, .int .i64 r4, .int .i64 r5, .int .i64 r6, .int .i64 r7, v7_]) ∧ Kd.R (Kd.int .i64) 3 w' w.heap.size (fun _ => True) v7_ r8 ∧ Below w.heap.size w w' := by
  have hu50 := Try.underlying50
  have hu137 := Try.underlying137
  have HR2 := Aside0.mk hr2
  have HC2 := Aside0.mk hc2
  clear hr2 hc2
  have HR3 := Aside0.mk hr3
  have HC3 := Aside0.mk hc3
  clear hr3 hc3
  have HB := Aside0.mk (Below.refl w.heap.size w)
  have H : ((impl_goodSides.f a0 a1).bind fun t151 => (if t151 = true then ((impl_goodScreen.f k l2 (wrap64 (a0 * a1))).bind fun t152 => (if t152 = true then ((impl_goodScreen.f k l3 (wrap64 (a0 * a1))).bind fun t153 => (impl_Between.j0 k a0 a1 l2 l3 (!t153))) else (impl_Between.j0 k a0 a1 l2 l3 true))) else (impl_Between.j0 k a0 a1 l2 l3 true))) = some (r1, r2, r3, r4, r5, r6, r7, r8) := h
  clear h
  have HC5 := Aside0.mk H
  clear H
  go_enter Try.func31, Try.ntmps31
  go_upto_region 1 with (first | ((with_reducible refine gate_dst (N := 8) rfl ?_); refine box_event ?hg (N := 8) ?hd (cs := #[.int .i64 0, .int .i64 0, .int .i64 0, .int .i64 0, .int .i64 0, .int .i64 0, .int .i64 0, .slice none 0 0]) (t := 50) ?hr ?_; (case hd => rfl); (case hg => rfl); (case hr => first | (go_simp; done) | (go_simp; rfl)); intro gb150 hg w6 hbox hb; have n0_ := Aside0.mk (below_step (by repeat (first | (with_reducible first | exact HB.out | apply below_alloc | apply pw_below_drewN | apply below_drew1) | exact HB.out)) hb); have n1_ := Aside0.mk (hbox); have n2_ := Aside0.mk ((by rw [hg]; exact (below_size (by repeat (first | (with_reducible first | exact HB.out | apply below_alloc | apply pw_below_drewN | apply below_drew1) | exact HB.out))) : w.heap.size ≤ gb150)); have n3_ := n2_; clear HB; have HB := n0_; have BK150 := n1_; have GW150 := n2_; have GE150 := n3_; clear n0_ n1_ n2_ n3_; clear hb hbox hg))
  repeat (go_quiet (first | ((with_reducible refine gate_dst (N := 8) rfl ?_); refine box_event ?hg (N := 8) ?hd (cs := #[.int .i64 0, .int .i64 0, .int .i64 0, .int .i64 0, .int .i64 0, .int .i64 0, .int .i64 0, .slice none 0 0]) (t := 50) ?hr ?_; (case hd => rfl); (case hg => rfl); (case hr => first | (go_simp; done) | (go_simp; rfl)); intro gb150 hg w6 hbox hb; have n0_ := Aside0.mk (below_step (by repeat (first | (with_reducible first | exact HB.out | apply below_alloc | apply pw_below_drewN | apply below_drew1) | exact HB.out)) hb); have n1_ := Aside0.mk (hbox); have n2_ := Aside0.mk ((by rw [hg]; exact (below_size (by repeat (first | (with_reducible first | exact HB.out | apply below_alloc | apply pw_below_drewN | apply below_drew1) | exact HB.out))) : w.heap.size ≤ gb150)); have n3_ := n2_; clear HB; have HB := n0_; have BK150 := n1_; have GW150 := n2_; have GE150 := n3_; clear n0_ n1_ n2_ n3_; clear hb hbox hg)); go_upto_region 1 with (first | ((with_reducible refine gate_dst (N := 8) rfl ?_); refine box_event ?hg (N := 8) ?hd (cs := #[.int .i64 0, .int .i64 0, .int .i64 0, .int .i64 0, .int .i64 0, .int .i64 0, .int .i64 0, .slice none 0 0]) (t := 50) ?hr ?_; (case hd => rfl); (case hg => rfl); (case hr => first | (go_simp; done) | (go_simp; rfl)); intro gb150 hg w6 hbox hb; have n0_ := Aside0.mk (below_step (by repeat (first | (with_reducible first | exact HB.out | apply below_alloc | apply pw_below_drewN | apply below_drew1) | exact HB.out)) hb); have n1_ := Aside0.mk (hbox); have n2_ := Aside0.mk ((by rw [hg]; exact (below_size (by repeat (first | (with_reducible first | exact HB.out | apply below_alloc | apply pw_below_drewN | apply below_drew1) | exact HB.out))) : w.heap.size ≤ gb150)); have n3_ := n2_; clear HB; have HB := n0_; have BK150 := n1_; have GW150 := n2_; have GE150 := n3_; clear n0_ n1_ n2_ n3_; clear hb hbox hg)))
  (try simp only [Act.put, List.setIfInBounds_toArray, List.set_cons_zero, List.set_cons_succ])
  go_cut [41] (fun v41 wc => ∃ (kq : Nat) (x41_4 : Bool), v41 = .bool x41_4 ∧ Aside0 (impl_Between.j0 kq a0 a1 l2 l3 x41_4 = some (r1, r2, r3, r4, r5, r6, r7, r8)) ∧ Aside0 (kq ≤ k) ∧ Aside0 (wc.heap[gb150]? = some (.cells #[.int .i64 0, .int .i64 0, .int .i64 0, .int .i64 0, .int .i64 0, .int .i64 0, .int .i64 0, (.slice none 0 0)] 50 (0, 0))) ∧ Aside0 (Below w.heap.size w wc))
  case first =>
    have H := HC5.out
    clear HC5
    replace H := Option.bind_eq_some_iff.mp H
    obtain ⟨t151, A70, H⟩ := H
    replace H : (if t151 = true then ((impl_goodScreen.f k l2 (wrap64 (a0 * a1))).bind fun t152 => (if t152 = true then ((impl_goodScreen.f k l3 (wrap64 (a0 * a1))).bind fun t153 => (impl_Between.j0 k a0 a1 l2 l3 (!t153))) else (impl_Between.j0 k a0 a1 l2 l3 true))) else (impl_Between.j0 k a0 a1 l2 l3 true)) = some (r1, r2, r3, r4, r5, r6, r7, r8) := H
    have A7 := Aside0.mk A70
    clear A70
    by_cases c8 : t151 = true
    rotate_left
    · replace c8 := Bool.eq_false_iff.mpr c8
      subst c8
      have H1 : (impl_Between.j0 k a0 a1 l2 l3 true) = some (r1, r2, r3, r4, r5, r6, r7, r8) := by rw [if_neg (show ¬ (false = true) by decide)] at H; exact H
      clear H
      have H := H1
      clear H1
      have H' := Aside0.mk H
      clear H
      iterate 3 (try go_wp2_with (first | (go_at_call 96; (with_reducible refine (impl_goodSides.calls a0 a1 false _ A7.out).mono ?_); rintro e w' ⟨rfl, ⟨nd, rfl⟩⟩; (try first | exact ⟨rfl, _, World.drewN_drewN _ _ _⟩ | exact ⟨rfl, _, Eq.trans (World.drewN_drewN _ _ _) (congrArg (World.drewN _) (Nat.add_assoc _ _ _))⟩))); try go_quiet (first | (go_at_call 96; (with_reducible refine (impl_goodSides.calls a0 a1 false _ A7.out).mono ?_); rintro e w' ⟨rfl, ⟨nd, rfl⟩⟩; (try first | exact ⟨rfl, _, World.drewN_drewN _ _ _⟩ | exact ⟨rfl, _, Eq.trans (World.drewN_drewN _ _ _) (congrArg (World.drewN _) (Nat.add_assoc _ _ _))⟩))))
      go_meet
      case rel => exact ⟨_, (true), (by first | rfl | (simp; done) | (simp [*]; done)), H', ⟨by first | omega | exact Nat.le_refl _⟩, ⟨by (with_reducible repeat (first | refine blk_drewN ?_ _ | refine blk_drew ?_ | refine blk_alloc ?_ _)); exact BK150.out⟩, ⟨by repeat (first | (with_reducible first | exact HB.out | apply below_alloc | apply pw_below_drewN | apply below_drew1 | refine below_set ?_ GE150.out) | exact HB.out)⟩⟩
    subst c8
    have H1 : ((impl_goodScreen.f k l2 (wrap64 (a0 * a1))).bind fun t152 => (if t152 = true then ((impl_goodScreen.f k l3 (wrap64 (a0 * a1))).bind fun t153 => (impl_Between.j0 k a0 a1 l2 l3 (!t153))) else (impl_Between.j0 k a0 a1 l2 l3 true))) = some (r1, r2, r3, r4, r5, r6, r7, r8) := by rw [if_pos rfl] at H; exact H
    clear H
    have H := H1
    clear H1
    replace H := Option.bind_eq_some_iff.mp H
    obtain ⟨t152, A90, H⟩ := H
    replace H : (if t152 = true then ((impl_goodScreen.f k l3 (wrap64 (a0 * a1))).bind fun t153 => (impl_Between.j0 k a0 a1 l2 l3 (!t153))) else (impl_Between.j0 k a0 a1 l2 l3 true)) = some (r1, r2, r3, r4, r5, r6, r7, r8) := H
    have A9 := Aside0.mk A90
    clear A90
    by_cases c10 : t152 = true
    rotate_left
    · replace c10 := Bool.eq_false_iff.mpr c10
      subst c10
      have H1 : (impl_Between.j0 k a0 a1 l2 l3 true) = some (r1, r2, r3, r4, r5, r6, r7, r8) := by rw [if_neg (show ¬ (false = true) by decide)] at H; exact H
      clear H
      have H := H1
      clear H1
      have H' := Aside0.mk H
      clear H
      iterate 3 (try go_wp2_with (first | (go_at_call 96; (with_reducible refine (impl_goodSides.calls a0 a1 true _ A7.out).mono ?_); rintro e w' ⟨rfl, ⟨nd, rfl⟩⟩; (try first | exact ⟨rfl, _, World.drewN_drewN _ _ _⟩ | exact ⟨rfl, _, Eq.trans (World.drewN_drewN _ _ _) (congrArg (World.drewN _) (Nat.add_assoc _ _ _))⟩)) | (go_at_call 97; (with_reducible refine (impl_goodScreen.calls k _ _ l2 (wrap64 (a0 * a1)) false _ ?side1 ?side2 A9.out).mono ?_); (case side1 => repeat (first | exact (Kd.C_below HR2.out (by repeat (first | (with_reducible first | exact HB.out | apply below_alloc | apply pw_below_drewN | apply below_drew1 | refine below_set ?_ GE150.out) | exact HB.out))) | (with_reducible refine Kd.C_alloc ?_ _) | (with_reducible refine Kd.C_drewN ?_ _) | (with_reducible refine Kd.C_drew ?_))); (case side2 => exact HC2.out); rintro e w' ⟨rfl, ⟨nd, rfl⟩⟩; (try first | exact ⟨rfl, _, World.drewN_drewN _ _ _⟩ | exact ⟨rfl, _, Eq.trans (World.drewN_drewN _ _ _) (congrArg (World.drewN _) (Nat.add_assoc _ _ _))⟩))); try go_quiet (first | (go_at_call 96; (with_reducible refine (impl_goodSides.calls a0 a1 true _ A7.out).mono ?_); rintro e w' ⟨rfl, ⟨nd, rfl⟩⟩; (try first | exact ⟨rfl, _, World.drewN_drewN _ _ _⟩ | exact ⟨rfl, _, Eq.trans (World.drewN_drewN _ _ _) (congrArg (World.drewN _) (Nat.add_assoc _ _ _))⟩)) | (go_at_call 97; (with_reducible refine (impl_goodScreen.calls k _ _ l2 (wrap64 (a0 * a1)) false _ ?side1 ?side2 A9.out).mono ?_); (case side1 => repeat (first | exact (Kd.C_below HR2.out (by repeat (first | (with_reducible first | exact HB.out | apply below_alloc | apply pw_below_drewN | apply below_drew1 | refine below_set ?_ GE150.out) | exact HB.out))) | (with_reducible refine Kd.C_alloc ?_ _) | (with_reducible refine Kd.C_drewN ?_ _) | (with_reducible refine Kd.C_drew ?_))); (case side2 => exact HC2.out); rintro e w' ⟨rfl, ⟨nd, rfl⟩⟩; (try first | exact ⟨rfl, _, World.drewN_drewN _ _ _⟩ | exact ⟨rfl, _, Eq.trans (World.drewN_drewN _ _ _) (congrArg (World.drewN _) (Nat.add_assoc _ _ _))⟩))))
      go_meet
      case rel => exact ⟨_, (true), (by first | rfl | (simp; done) | (simp [*]; done)), H', ⟨by first | omega | exact Nat.le_refl _⟩, ⟨by (with_reducible repeat (first | refine blk_drewN ?_ _ | refine blk_drew ?_ | refine blk_alloc ?_ _)); exact BK150.out⟩, ⟨by repeat (first | (with_reducible first | exact HB.out | apply below_alloc | apply pw_below_drewN | apply below_drew1 | refine below_set ?_ GE150.out) | exact HB.out)⟩⟩
    subst c10
    have H1 : ((impl_goodScreen.f k l3 (wrap64 (a0 * a1))).bind fun t153 => (impl_Between.j0 k a0 a1 l2 l3 (!t153))) = some (r1, r2, r3, r4, r5, r6, r7, r8) := by rw [if_pos rfl] at H; exact H
    clear H
    have H := H1
    clear H1
    replace H := Option.bind_eq_some_iff.mp H
    obtain ⟨t153, A110, H⟩ := H
    replace H : (impl_Between.j0 k a0 a1 l2 l3 (!t153)) = some (r1, r2, r3, r4, r5, r6, r7, r8) := H
    have A11 := Aside0.mk A110
    clear A110
    have H' := Aside0.mk H
    clear H
    iterate 3 (try go_wp2_with (first | (go_at_call 96; (with_reducible refine (impl_goodSides.calls a0 a1 true _ A7.out).mono ?_); rintro e w' ⟨rfl, ⟨nd, rfl⟩⟩; (try first | exact ⟨rfl, _, World.drewN_drewN _ _ _⟩ | exact ⟨rfl, _, Eq.trans (World.drewN_drewN _ _ _) (congrArg (World.drewN _) (Nat.add_assoc _ _ _))⟩)) | (go_at_call 97; (with_reducible refine (impl_goodScreen.calls k _ _ l2 (wrap64 (a0 * a1)) true _ ?side1 ?side2 A9.out).mono ?_); (case side1 => repeat (first | exact (Kd.C_below HR2.out (by repeat (first | (with_reducible first | exact HB.out | apply below_alloc | apply pw_below_drewN | apply below_drew1 | refine below_set ?_ GE150.out) | exact HB.out))) | (with_reducible refine Kd.C_alloc ?_ _) | (with_reducible refine Kd.C_drewN ?_ _) | (with_reducible refine Kd.C_drew ?_))); (case side2 => exact HC2.out); rintro e w' ⟨rfl, ⟨nd, rfl⟩⟩; (try first | exact ⟨rfl, _, World.drewN_drewN _ _ _⟩ | exact ⟨rfl, _, Eq.trans (World.drewN_drewN _ _ _) (congrArg (World.drewN _) (Nat.add_assoc _ _ _))⟩)) | (go_at_call 97; (with_reducible refine (impl_goodScreen.calls k _ _ l3 (wrap64 (a0 * a1)) t153 _ ?side1 ?side2 A11.out).mono ?_); (case side1 => repeat (first | exact (Kd.C_below HR3.out (by repeat (first | (with_reducible first | exact HB.out | apply below_alloc | apply pw_below_drewN | apply below_drew1 | refine below_set ?_ GE150.out) | exact HB.out))) | (with_reducible refine Kd.C_alloc ?_ _) | (with_reducible refine Kd.C_drewN ?_ _) | (with_reducible refine Kd.C_drew ?_))); (case side2 => exact HC3.out); rintro e w' ⟨rfl, ⟨nd, rfl⟩⟩; (try first | exact ⟨rfl, _, World.drewN_drewN _ _ _⟩ | exact ⟨rfl, _, Eq.trans (World.drewN_drewN _ _ _) (congrArg (World.drewN _) (Nat.add_assoc _ _ _))⟩))); try go_quiet (first | (go_at_call 96; (with_reducible refine (impl_goodSides.calls a0 a1 true _ A7.out).mono ?_); rintro e w' ⟨rfl, ⟨nd, rfl⟩⟩; (try first | exact ⟨rfl, _, World.drewN_drewN _ _ _⟩ | exact ⟨rfl, _, Eq.trans (World.drewN_drewN _ _ _) (congrArg (World.drewN _) (Nat.add_assoc _ _ _))⟩)) | (go_at_call 97; (with_reducible refine (impl_goodScreen.calls k _ _ l2 (wrap64 (a0 * a1)) true _ ?side1 ?side2 A9.out).mono ?_); (case side1 => repeat (first | exact (Kd.C_below HR2.out (by repeat (first | (with_reducible first | exact HB.out | apply below_alloc | apply pw_below_drewN | apply below_drew1 | refine below_set ?_ GE150.out) | exact HB.out))) | (with_reducible refine Kd.C_alloc ?_ _) | (with_reducible refine Kd.C_drewN ?_ _) | (with_reducible refine Kd.C_drew ?_))); (case side2 => exact HC2.out); rintro e w' ⟨rfl, ⟨nd, rfl⟩⟩; (try first | exact ⟨rfl, _, World.drewN_drewN _ _ _⟩ | exact ⟨rfl, _, Eq.trans (World.drewN_drewN _ _ _) (congrArg (World.drewN _) (Nat.add_assoc _ _ _))⟩)) | (go_at_call 97; (with_reducible refine (impl_goodScreen.calls k _ _ l3 (wrap64 (a0 * a1)) t153 _ ?side1 ?side2 A11.out).mono ?_); (case side1 => repeat (first | exact (Kd.C_below HR3.out (by repeat (first | (with_reducible first | exact HB.out | apply below_alloc | apply pw_below_drewN | apply below_drew1 | refine below_set ?_ GE150.out) | exact HB.out))) | (with_reducible refine Kd.C_alloc ?_ _) | (with_reducible refine Kd.C_drewN ?_ _) | (with_reducible refine Kd.C_drew ?_))); (case side2 => exact HC3.out); rintro e w' ⟨rfl, ⟨nd, rfl⟩⟩; (try first | exact ⟨rfl, _, World.drewN_drewN _ _ _⟩ | exact ⟨rfl, _, Eq.trans (World.drewN_drewN _ _ _) (congrArg (World.drewN _) (Nat.add_assoc _ _ _))⟩))))
    go_meet
    case rel => exact ⟨_, (!t153), (by first | rfl | (simp; done) | (simp [*]; done)), H', ⟨by first | omega | exact Nat.le_refl _⟩, ⟨by (with_reducible repeat (first | refine blk_drewN ?_ _ | refine blk_drew ?_ | refine blk_alloc ?_ _)); exact BK150.out⟩, ⟨by repeat (first | (with_reducible first | exact HB.out | apply below_alloc | apply pw_below_drewN | apply below_drew1 | refine below_set ?_ GE150.out) | exact HB.out)⟩⟩
  case rest =>
    clear HC5
    try clear c1
    try clear c2
    try clear p2
    try clear c3
    try clear p6
    try clear c8
    try clear c10
    obtain ⟨kq, x41_4, rfl, HA, HJ4, BK150, HB⟩ := hcut
    cases kq with
    | zero => exact absurd HA.out (by simp [impl_Between.j0])
    | succ kj4 =>
      have H := HA.out
      clear HA
      simp only [impl_Between.j0] at H
      by_cases c12 : x41_4 = true
      · subst c12
        have H1 : (some (0, 0, 0, 0, 0, 0, 0, ([] : List Int))) = some (r1, r2, r3, r4, r5, r6, r7, r8) := by rw [if_pos rfl] at H; exact H
        clear H
        have H := H1
        clear H1
        simp only [Option.some.injEq, Prod.mk.injEq] at H
        obtain ⟨rfl, rfl, rfl, rfl, rfl, rfl, rfl, rfl⟩ := H
        have hcz13_0 : wc.cell? ⟨gb150, 0, none⟩ = some (.int .i64 0) := (blk_cell BK150.out 0).trans rfl
        have hcz13_1 : wc.cell? ⟨gb150, 1, none⟩ = some (.int .i64 0) := (blk_cell BK150.out 1).trans rfl
        have hcz13_2 : wc.cell? ⟨gb150, 2, none⟩ = some (.int .i64 0) := (blk_cell BK150.out 2).trans rfl
        have hcz13_3 : wc.cell? ⟨gb150, 3, none⟩ = some (.int .i64 0) := (blk_cell BK150.out 3).trans rfl
        have hcz13_4 : wc.cell? ⟨gb150, 4, none⟩ = some (.int .i64 0) := (blk_cell BK150.out 4).trans rfl
        have hcz13_5 : wc.cell? ⟨gb150, 5, none⟩ = some (.int .i64 0) := (blk_cell BK150.out 5).trans rfl
        have hcz13_6 : wc.cell? ⟨gb150, 6, none⟩ = some (.int .i64 0) := (blk_cell BK150.out 6).trans rfl
        have hcz13_7 : wc.cell? ⟨gb150, 7, none⟩ = some (.slice none 0 0) := (blk_cell BK150.out 7).trans rfl
        have hfz13_0 := blk_frozen BK150.out 0
        have hfz13_1 := blk_frozen BK150.out 1
        have hfz13_2 := blk_frozen BK150.out 2
        have hfz13_3 := blk_frozen BK150.out 3
        have hfz13_4 := blk_frozen BK150.out 4
        have hfz13_5 := blk_frozen BK150.out 5
        have hfz13_6 := blk_frozen BK150.out 6
        have hfz13_7 := blk_frozen BK150.out 7
        go_wp2
        repeat (go_quiet (fail); try go_wp2)
        refine bodyPost_ret (results_cell_row rfl _ _ gb150 50 #[.int .i64 0, .int .i64 0, .int .i64 0, .int .i64 0, .int .i64 0, .int .i64 0, .int .i64 0, .slice none 0 0] (0, 0) _ rfl (by (with_reducible repeat (first | refine blk_drewN ?_ _ | refine blk_drew ?_ | refine blk_alloc ?_ _)); refine blk_put (cs := #[.int .i64 0, .int .i64 0, .int .i64 0, .int .i64 0, .int .i64 0, .int .i64 0, .int .i64 0, .slice none 0 0]) ?_ 7 _ rfl; (with_reducible repeat (first | refine blk_drewN ?_ _ | refine blk_drew ?_ | refine blk_alloc ?_ _)); refine blk_put (cs := #[.int .i64 0, .int .i64 0, .int .i64 0, .int .i64 0, .int .i64 0, .int .i64 0, .int .i64 0, .slice none 0 0]) ?_ 6 _ rfl; (with_reducible repeat (first | refine blk_drewN ?_ _ | refine blk_drew ?_ | refine blk_alloc ?_ _)); refine blk_put (cs := #[.int .i64 0, .int .i64 0, .int .i64 0, .int .i64 0, .int .i64 0, .int .i64 0, .int .i64 0, .slice none 0 0]) ?_ 5 _ rfl; (with_reducible repeat (first | refine blk_drewN ?_ _ | refine blk_drew ?_ | refine blk_alloc ?_ _)); refine blk_put (cs := #[.int .i64 0, .int .i64 0, .int .i64 0, .int .i64 0, .int .i64 0, .int .i64 0, .int .i64 0, .slice none 0 0]) ?_ 4 _ rfl; (with_reducible repeat (first | refine blk_drewN ?_ _ | refine blk_drew ?_ | refine blk_alloc ?_ _)); refine blk_put (cs := #[.int .i64 0, .int .i64 0, .int .i64 0, .int .i64 0, .int .i64 0, .int .i64 0, .int .i64 0, .slice none 0 0]) ?_ 3 _ rfl; (with_reducible repeat (first | refine blk_drewN ?_ _ | refine blk_drew ?_ | refine blk_alloc ?_ _)); refine blk_put (cs := #[.int .i64 0, .int .i64 0, .int .i64 0, .int .i64 0, .int .i64 0, .int .i64 0, .int .i64 0, .slice none 0 0]) ?_ 2 _ rfl; (with_reducible repeat (first | refine blk_drewN ?_ _ | refine blk_drew ?_ | refine blk_alloc ?_ _)); refine blk_put (cs := #[.int .i64 0, .int .i64 0, .int .i64 0, .int .i64 0, .int .i64 0, .int .i64 0, .int .i64 0, .slice none 0 0]) ?_ 1 _ rfl; (with_reducible repeat (first | refine blk_drewN ?_ _ | refine blk_drew ?_ | refine blk_alloc ?_ _)); refine blk_put (cs := #[.int .i64 0, .int .i64 0, .int .i64 0, .int .i64 0, .int .i64 0, .int .i64 0, .int .i64 0, .slice none 0 0]) ?_ 0 _ rfl; (with_reducible repeat (first | refine blk_drewN ?_ _ | refine blk_drew ?_ | refine blk_alloc ?_ _)); exact BK150.out) Try.underlying50 rfl (by kernel_rfl)) rfl ?_
        exact ⟨_, by first | rfl | (simp [errW_none, errW_some] <;> rfl) | (simp [*, errW_none, errW_some] <;> rfl), by first | exact Kd.R_nil _ _ _ _ _ | exact Kd.N_nil _ _ _ _ _ | exact Kd.V_nil _ _ _ _ _ | exact Kd.Q_nil _ _ _ _ _ | exact Kd.S_nil _ _ _ _ _, by repeat (first | (with_reducible first | exact HB.out | apply below_alloc | apply pw_below_drewN | apply below_drew1 | refine below_set ?_ GE150.out) | exact HB.out)⟩
      replace c12 := Bool.eq_false_iff.mpr c12
      subst c12
      have H1 : (impl_Between.l0 kj4 a0 l2 l3 a0 a1 (-1) (-1) (l2.length : Int) 0) = some (r1, r2, r3, r4, r5, r6, r7, r8) := by rw [if_neg (show ¬ (false = true) by decide)] at H; exact H
      clear H
      have H := H1
      clear H1
      have H' := Aside0.mk H
      clear H
      go_wp2
      repeat (go_quiet (fail); try go_wp2)
      go_loopg [9, 10, 11, 12, 47] kj4 (fun kq v9 v10 v11 v12 v47 w' => ∃ (x9_2 : Int) (x10_2 : Int) (x11_2 : Int) (x12_2 : Int) (x47_2 : Int), v9 = .int .i64 x9_2 ∧ v10 = .int .i64 x10_2 ∧ v11 = .int .i64 x11_2 ∧ v12 = .int .i64 x12_2 ∧ v47 = .int .i64 x47_2 ∧ Aside0 (impl_Between.l0 kq a0 l2 l3 x9_2 x10_2 x11_2 x12_2 (l2.length : Int) x47_2 = some (r1, r2, r3, r4, r5, r6, r7, r8)) ∧ Aside0 (kq ≤ kj4) ∧ Aside0 (w'.heap[gb150]? = some (.cells #[.int .i64 0, .int .i64 0, .int .i64 0, .int .i64 0, .int .i64 0, .int .i64 0, .int .i64 0, (.slice none 0 0)] 50 (0, 0))) ∧ Aside0 (Below w.heap.size w w'))
      case atStart => exact ⟨(a0), (a1), ((-1)), ((-1)), (0), (by first | rfl | (simp; done) | (simp [*]; done)), (by first | rfl | (simp; done) | (simp [*]; done)), (by first | rfl | (simp; done) | (simp [*]; done)), (by first | rfl | (simp; done) | (simp [*]; done)), (by first | rfl | (simp; done) | (simp [*]; done)), H', ⟨Nat.le_refl _⟩, ⟨by (with_reducible repeat (first | refine blk_drewN ?_ _ | refine blk_drew ?_ | refine blk_alloc ?_ _)); exact BK150.out⟩, ⟨by repeat (first | (with_reducible first | exact HB.out | apply below_alloc | apply pw_below_drewN | apply below_drew1 | refine below_set ?_ GE150.out) | exact HB.out)⟩⟩
      case round =>
        clear H'
        try clear c1
        try clear c2
        try clear p2
        try clear c3
        try clear p6
        try clear c8
        try clear c10
        try clear c12
        try clear hcz13_0
        try clear hcz13_1
        try clear hcz13_2
        try clear hcz13_3
        try clear hcz13_4
        try clear hcz13_5
        try clear hcz13_6
        try clear hcz13_7
        try clear hfz13_0
        try clear hfz13_1
        try clear hfz13_2
        try clear hfz13_3
        try clear hfz13_4
        try clear hfz13_5
        try clear hfz13_6
        try clear hfz13_7
        try clear p2
        try clear p6
        obtain ⟨x9_2, x10_2, x11_2, x12_2, x47_2, rfl, rfl, rfl, rfl, rfl, HA, HK2, BK150, HB⟩ := hrel
        cases gk with
        | zero => exact absurd HA.out (by simp [impl_Between.l0])
        | succ k2 =>
          have H := HA.out
          clear HA
          simp only [impl_Between.l0] at H
          by_cases c14 : x47_2 < (l2.length : Int)
          · rw [if_pos c14] at H
            have c14b0 : decide (x47_2 < (l2.length : Int)) = true := decide_eq_true c14
            clear c14
            by_cases c15 : 0 ≤ x47_2
            rotate_left
            · rw [if_neg c15] at H
              exact absurd H (by simp)
            rw [if_pos c15] at H
            have c15b0 : decide (0 ≤ x47_2) = true := decide_eq_true c15
            clear c15
            by_cases c16 : x47_2 < (l2.length : Int)
            rotate_left
            · rw [if_neg c16] at H
              exact absurd H (by simp)
            rw [if_pos c16] at H
            have c16b0 : decide (x47_2 < (l2.length : Int)) = true := decide_eq_true c16
            clear c16
            by_cases c17 : x47_2 < (l3.length : Int)
            rotate_left
            · rw [if_neg c17] at H
              exact absurd H (by simp)
            rw [if_pos c17] at H
            have c17b0 : decide (x47_2 < (l3.length : Int)) = true := decide_eq_true c17
            clear c17
            by_cases c18 : (rd l2 x47_2) = (rd l3 x47_2)
            · rw [if_pos c18] at H
              have c18b0 : ((rd l2 x47_2) == (rd l3 x47_2)) = true := beq_iff_eq.mpr c18
              have c18b1 : ((rd l2 x47_2) != (rd l3 x47_2)) = false := bne_eq_false_iff_eq.mpr c18
              clear c18
              have H' := Aside0.mk H
              clear H
              have p154 : 0 ≤ (x47_2 : Int) := of_decide_eq_true (by first | (with_reducible assumption) | assumption)
              have q154 : x47_2 < (l2.length : Int) := of_decide_eq_true (by first | (with_reducible assumption) | assumption)
              obtain ⟨ad154, e154, hx154_0⟩ := Kd.at_int HR2.out x47_2 p154 q154
              cases e154
              replace hx154_0 := (HB.out.cell (World.block_lt_of_cell? w _ hx154_0)).trans hx154_0
              replace p154 := eq_true p154
              replace q154 := eq_true q154
              have p155 : 0 ≤ (x47_2 : Int) := of_decide_eq_true (by first | (with_reducible assumption) | assumption)
              have q155 : x47_2 < (l3.length : Int) := of_decide_eq_true (by first | (with_reducible assumption) | assumption)
              obtain ⟨ad155, e155, hx155_0⟩ := Kd.at_int HR3.out x47_2 p155 q155
              cases e155
              replace hx155_0 := (HB.out.cell (World.block_lt_of_cell? w _ hx155_0)).trans hx155_0
              replace p155 := eq_true p155
              replace q155 := eq_true q155
              go_wp2
              repeat (go_quiet (fail); try go_wp2)
              go_roundg k2
              case measure => have := HJ4.out; have := HK2.out; omega
              case rel => exact ⟨(x9_2), (x10_2), (x11_2), (x12_2), (wrap64 (x47_2 + 1)), (by first | rfl | (simp; done) | (simp [*]; done)), (by first | rfl | (simp; done) | (simp [*]; done)), (by first | rfl | (simp; done) | (simp [*]; done)), (by first | rfl | (simp; done) | (simp [*]; done)), (by first | rfl | (simp; done) | (simp [*]; done)), H', ⟨by have := HJ4.out; have := HK2.out; omega⟩, ⟨by (with_reducible repeat (first | refine blk_drewN ?_ _ | refine blk_drew ?_ | refine blk_alloc ?_ _)); exact BK150.out⟩, ⟨by repeat (first | (with_reducible first | exact HB.out | apply below_alloc | apply pw_below_drewN | apply below_drew1 | refine below_set ?_ GE150.out) | exact HB.out)⟩⟩
            rw [if_neg c18] at H
            have c18b0 : ((rd l2 x47_2) == (rd l3 x47_2)) = false := beq_eq_false_iff_ne.mpr c18
            have c18b1 : ((rd l2 x47_2) != (rd l3 x47_2)) = true := bne_iff_ne.mpr c18
            by_cases c19 : a0 = 0
            · rw [if_pos c19] at H
              exact absurd H (by simp)
            rw [if_neg c19] at H
            have c19b0 : (a0 == 0) = false := beq_eq_false_iff_ne.mpr c19
            have c19b1 : (a0 != 0) = true := bne_iff_ne.mpr c19
            obtain ⟨ji20, hji20⟩ : ∃ j_ : Int, (mn x9_2 (Int.tmod x47_2 a0)) = j_ := ⟨_, rfl⟩
            replace H : (impl_Between.l0 k2 a0 l2 l3 ji20 (mn x10_2 (wrap64 (Int.tdiv x47_2 a0))) (mx x11_2 (Int.tmod x47_2 a0)) (mx x12_2 (wrap64 (Int.tdiv x47_2 a0))) (l2.length : Int) (wrap64 (x47_2 + 1))) = some (r1, r2, r3, r4, r5, r6, r7, r8) := by first | (rw [hji20] at H; exact H) | (simp only [hji20] at H ⊢; exact H)
            have hji20_ : (if (Int.tmod x47_2 a0) < x9_2 then (Int.tmod x47_2 a0) else x9_2) = ji20 := hji20
            obtain ⟨ji21, hji21⟩ : ∃ j_ : Int, (mn x10_2 (wrap64 (Int.tdiv x47_2 a0))) = j_ := ⟨_, rfl⟩
            replace H : (impl_Between.l0 k2 a0 l2 l3 ji20 ji21 (mx x11_2 (Int.tmod x47_2 a0)) (mx x12_2 (wrap64 (Int.tdiv x47_2 a0))) (l2.length : Int) (wrap64 (x47_2 + 1))) = some (r1, r2, r3, r4, r5, r6, r7, r8) := by first | (rw [hji21] at H; exact H) | (simp only [hji21] at H ⊢; exact H)
            have hji21_ : (if (wrap64 (Int.tdiv x47_2 a0)) < x10_2 then (wrap64 (Int.tdiv x47_2 a0)) else x10_2) = ji21 := hji21
            obtain ⟨ji22, hji22⟩ : ∃ j_ : Int, (mx x11_2 (Int.tmod x47_2 a0)) = j_ := ⟨_, rfl⟩
            replace H : (impl_Between.l0 k2 a0 l2 l3 ji20 ji21 ji22 (mx x12_2 (wrap64 (Int.tdiv x47_2 a0))) (l2.length : Int) (wrap64 (x47_2 + 1))) = some (r1, r2, r3, r4, r5, r6, r7, r8) := by first | (rw [hji22] at H; exact H) | (simp only [hji22] at H ⊢; exact H)
            have hji22_ : (if x11_2 < (Int.tmod x47_2 a0) then (Int.tmod x47_2 a0) else x11_2) = ji22 := hji22
            obtain ⟨ji23, hji23⟩ : ∃ j_ : Int, (mx x12_2 (wrap64 (Int.tdiv x47_2 a0))) = j_ := ⟨_, rfl⟩
            replace H : (impl_Between.l0 k2 a0 l2 l3 ji20 ji21 ji22 ji23 (l2.length : Int) (wrap64 (x47_2 + 1))) = some (r1, r2, r3, r4, r5, r6, r7, r8) := by first | (rw [hji23] at H; exact H) | (simp only [hji23] at H ⊢; exact H)
            have hji23_ : (if x12_2 < (wrap64 (Int.tdiv x47_2 a0)) then (wrap64 (Int.tdiv x47_2 a0)) else x12_2) = ji23 := hji23
            have H' := Aside0.mk H
            clear H
            have p154 : 0 ≤ (x47_2 : Int) := of_decide_eq_true (by first | (with_reducible assumption) | assumption)
            have q154 : x47_2 < (l2.length : Int) := of_decide_eq_true (by first | (with_reducible assumption) | assumption)
            obtain ⟨ad154, e154, hx154_0⟩ := Kd.at_int HR2.out x47_2 p154 q154
            cases e154
            replace hx154_0 := (HB.out.cell (World.block_lt_of_cell? w _ hx154_0)).trans hx154_0
            replace p154 := eq_true p154
            replace q154 := eq_true q154
            have p155 : 0 ≤ (x47_2 : Int) := of_decide_eq_true (by first | (with_reducible assumption) | assumption)
            have q155 : x47_2 < (l3.length : Int) := of_decide_eq_true (by first | (with_reducible assumption) | assumption)
            obtain ⟨ad155, e155, hx155_0⟩ := Kd.at_int HR3.out x47_2 p155 q155
            cases e155
            replace hx155_0 := (HB.out.cell (World.block_lt_of_cell? w _ hx155_0)).trans hx155_0
            replace p155 := eq_true p155
            replace q155 := eq_true q155
            go_wp2
            repeat (go_quiet (fail); try go_wp2)
            go_roundg k2
            case measure => have := HJ4.out; have := HK2.out; omega
            case rel => exact ⟨(ji20), (ji21), (ji22), (ji23), (wrap64 (x47_2 + 1)), (by first | rfl | (simp; done) | (simp only [← hji20] <;> (first | rfl | simp)) | (simp [*]; done)), (by first | rfl | (simp; done) | (simp only [← hji21] <;> (first | rfl | simp)) | (simp [*]; done)), (by first | rfl | (simp; done) | (simp only [← hji22] <;> (first | rfl | simp)) | (simp [*]; done)), (by first | rfl | (simp; done) | (simp only [← hji23] <;> (first | rfl | simp)) | (simp [*]; done)), (by first | rfl | (simp; done) | (simp [*]; done)), H', ⟨by have := HJ4.out; have := HK2.out; omega⟩, ⟨by (with_reducible repeat (first | refine blk_drewN ?_ _ | refine blk_drew ?_ | refine blk_alloc ?_ _)); exact BK150.out⟩, ⟨by repeat (first | (with_reducible first | exact HB.out | apply below_alloc | apply pw_below_drewN | apply below_drew1 | refine below_set ?_ GE150.out) | exact HB.out)⟩⟩
          rw [if_neg c14] at H
          have c14b0 : decide (x47_2 < (l2.length : Int)) = false := decide_eq_false c14
          clear c14
          have HC24 := Aside0.mk H
          clear H
          go_upto_if 81 with (fail)
          repeat (go_quiet (fail); go_upto_if 81 with (fail))
          go_cut [9, 10, 11, 12] (fun v9 v10 v11 v12 wc => ∃ (kq : Nat) (x9_23 : Int) (x10_23 : Int) (x11_23 : Int) (x12_23 : Int), v9 = .int .i64 x9_23 ∧ v10 = .int .i64 x10_23 ∧ v11 = .int .i64 x11_23 ∧ v12 = .int .i64 x12_23 ∧ Aside0 (impl_Between.j2 kq a0 l3 x9_23 x10_23 x11_23 x12_23 = some (r1, r2, r3, r4, r5, r6, r7, r8)) ∧ Aside0 (kq ≤ k2) ∧ Aside0 (wc.heap[gb150]? = some (.cells #[.int .i64 0, .int .i64 0, .int .i64 0, .int .i64 0, .int .i64 0, .int .i64 0, .int .i64 0, (.slice none 0 0)] 50 (0, 0))) ∧ Aside0 (Below w.heap.size w wc))
          case first =>
            have H := HC24.out
            clear HC24
            by_cases c25 : x11_2 < 0
            · rw [if_pos c25] at H
              have c25b0 : decide (x11_2 < 0) = true := decide_eq_true c25
              clear c25
              (first | rw [c25b0] | (simp only [i64_w, i32_w]; rw [c25b0]) | skip)
              have H' := Aside0.mk H
              clear H
              go_wp2
              repeat (go_quiet (fail); try go_wp2)
              go_meet
              case rel => exact ⟨_, (0), (0), (0), (0), (by first | rfl | (simp; done) | (simp [*]; done)), (by first | rfl | (simp; done) | (simp [*]; done)), (by first | rfl | (simp; done) | (simp [*]; done)), (by first | rfl | (simp; done) | (simp [*]; done)), H', ⟨by have := HJ4.out; have := HK2.out; first | omega | exact Nat.le_refl _⟩, ⟨by (with_reducible repeat (first | refine blk_drewN ?_ _ | refine blk_drew ?_ | refine blk_alloc ?_ _)); exact BK150.out⟩, ⟨by repeat (first | (with_reducible first | exact HB.out | apply below_alloc | apply pw_below_drewN | apply below_drew1 | refine below_set ?_ GE150.out) | exact HB.out)⟩⟩
            rw [if_neg c25] at H
            have c25b0 : decide (x11_2 < 0) = false := decide_eq_false c25
            clear c25
            (first | rw [c25b0] | (simp only [i64_w, i32_w]; rw [c25b0]) | skip)
            have H' := Aside0.mk H
            clear H
            go_wp2
            repeat (go_quiet (fail); try go_wp2)
            go_meet
            case rel => exact ⟨_, (x9_2), (x10_2), (x11_2), (x12_2), (by first | rfl | (simp; done) | (simp [*]; done)), (by first | rfl | (simp; done) | (simp [*]; done)), (by first | rfl | (simp; done) | (simp [*]; done)), (by first | rfl | (simp; done) | (simp [*]; done)), H', ⟨by have := HJ4.out; have := HK2.out; first | omega | exact Nat.le_refl _⟩, ⟨by (with_reducible repeat (first | refine blk_drewN ?_ _ | refine blk_drew ?_ | refine blk_alloc ?_ _)); exact BK150.out⟩, ⟨by repeat (first | (with_reducible first | exact HB.out | apply below_alloc | apply pw_below_drewN | apply below_drew1 | refine below_set ?_ GE150.out) | exact HB.out)⟩⟩
          case rest =>
            clear HC24
            try clear c1
            try clear p1
            try clear q1
            try clear hx1
            try clear c2
            try clear p2
            try clear c3
            try clear p6
            try clear c8
            try clear c10
            try clear c12
            try clear c14
            try clear c14b0
            try clear c15
            try clear c15b0
            try clear p15
            try clear q15
            try clear hx15
            try clear c16
            try clear c16b0
            try clear c17
            try clear c17b0
            try clear c18
            try clear c18b0
            try clear c18b1
            try clear c19
            try clear c19b0
            try clear c19b1
            try clear c25
            try clear c25b0
            try clear hcz13_0
            try clear hcz13_1
            try clear hcz13_2
            try clear hcz13_3
            try clear hcz13_4
            try clear hcz13_5
            try clear hcz13_6
            try clear hcz13_7
            try clear hfz13_0
            try clear hfz13_1
            try clear hfz13_2
            try clear hfz13_3
            try clear hfz13_4
            try clear hfz13_5
            try clear hfz13_6
            try clear hfz13_7
            try clear hx154_0
            try clear hx155_0
            try clear p154
            try clear p155
            try clear p2
            try clear p6
            try clear q154
            try clear q155
            obtain ⟨kq, x9_23, x10_23, x11_23, x12_23, rfl, rfl, rfl, rfl, HA, HJ23, BK150, HB⟩ := hcut
            cases kq with
            | zero => exact absurd HA.out (by simp [impl_Between.j2])
            | succ kj23 =>
              have H := HA.out
              clear HA
              simp only [impl_Between.j2] at H
              obtain ⟨y157, hy157⟩ : ∃ y_ : List Bool, y_ = (List.replicate 257 false) := ⟨_, rfl⟩
              replace H : (impl_Between.l1 kj23 a0 l3 x9_23 x11_23 x12_23 y157 x10_23 x9_23 x10_23 (wrap64 ((wrap64 (x11_23 - x9_23)) + 1)) (wrap64 ((wrap64 (x12_23 - x10_23)) + 1)) 0 0 (-1) ([] : List Int)) = some (r1, r2, r3, r4, r5, r6, r7, r8) := by first | (rw [hy157]; with_reducible exact H) | (have H2_ := (Option.bind_some _ _).symm.trans H; rw [hy157]; with_reducible exact H2_) | (have H2_ := (Option.bind_some _ _).symm.trans H; with_reducible exact H2_) | with_reducible exact H | (rw [hy157]; exact H) | exact H
              have Ny157 := Aside0.mk hy157
              clear hy157
              have H' := Aside0.mk H
              clear H
              iterate 3 (try go_wp2_with (first | ((with_reducible refine gate_dst (N := 14) rfl ?_); refine box_event ?hg (N := 14) ?hd (cs := #[.int .i64 0, .int .i64 0, .int .i64 0, .int .i64 0, .int .i64 0, .int .i64 0, .int .i64 0, .slice none 0 0]) (t := 50) ?hr ?_; (case hd => rfl); (case hg => rfl); (case hr => first | (go_simp; done) | (go_simp; rfl)); intro gb156 hg w26 hbox hb; have n0_ := Aside0.mk (blk_below (g := gb150) (o := .cells #[.int .i64 0, .int .i64 0, .int .i64 0, .int .i64 0, .int .i64 0, .int .i64 0, .int .i64 0, .slice none 0 0] 50 (0, 0)) (by (with_reducible repeat (first | refine blk_drewN ?_ _ | refine blk_drew ?_ | refine blk_alloc ?_ _)); exact BK150.out) hb); have n1_ := Aside0.mk (below_step (by repeat (first | (with_reducible first | exact HB.out | apply below_alloc | apply pw_below_drewN | apply below_drew1 | refine below_set ?_ GE150.out) | exact HB.out)) hb); have n2_ := Aside0.mk (hbox); have n3_ := Aside0.mk ((by rw [hg]; exact (below_size (by repeat (first | (with_reducible first | exact HB.out | apply below_alloc | apply pw_below_drewN | apply below_drew1 | refine below_set ?_ GE150.out) | exact HB.out))) : w.heap.size ≤ gb156)); have n4_ := n3_; have n5_ := Aside0.mk ((by rw [hg]; exact Nat.ne_of_lt (blk_lt (g := gb150) (o := .cells #[.int .i64 0, .int .i64 0, .int .i64 0, .int .i64 0, .int .i64 0, .int .i64 0, .int .i64 0, .slice none 0 0] 50 (0, 0)) (by (with_reducible repeat (first | refine blk_drewN ?_ _ | refine blk_drew ?_ | refine blk_alloc ?_ _)); exact BK150.out)) : gb150 ≠ gb156)); have n6_ := Aside0.mk ((by rw [hg]; exact Nat.ne_of_gt (blk_lt (g := gb150) (o := .cells #[.int .i64 0, .int .i64 0, .int .i64 0, .int .i64 0, .int .i64 0, .int .i64 0, .int .i64 0, .slice none 0 0] 50 (0, 0)) (by (with_reducible repeat (first | refine blk_drewN ?_ _ | refine blk_drew ?_ | refine blk_alloc ?_ _)); exact BK150.out)) : gb156 ≠ gb150)); clear BK150; clear HB; have BK150 := n0_; have HB := n1_; have BK156 := n2_; have GW156 := n3_; have GE156 := n4_; have NB150_156 := n5_; have NB156_150 := n6_; clear n0_ n1_ n2_ n3_ n4_ n5_ n6_; clear hb hbox hg; have hnb27 := NB156_150.out; have hnc27 := NB150_156.out; have hcz28_0 : w26.cell? ⟨gb156, 0, none⟩ = some (.int .i64 0) := (blk_cell BK156.out 0).trans rfl; have hcz28_1 : w26.cell? ⟨gb156, 1, none⟩ = some (.int .i64 0) := (blk_cell BK156.out 1).trans rfl; have hcz28_2 : w26.cell? ⟨gb156, 2, none⟩ = some (.int .i64 0) := (blk_cell BK156.out 2).trans rfl; have hcz28_3 : w26.cell? ⟨gb156, 3, none⟩ = some (.int .i64 0) := (blk_cell BK156.out 3).trans rfl; have hcz28_4 : w26.cell? ⟨gb156, 4, none⟩ = some (.int .i64 0) := (blk_cell BK156.out 4).trans rfl; have hcz28_5 : w26.cell? ⟨gb156, 5, none⟩ = some (.int .i64 0) := (blk_cell BK156.out 5).trans rfl; have hcz28_6 : w26.cell? ⟨gb156, 6, none⟩ = some (.int .i64 0) := (blk_cell BK156.out 6).trans rfl; have hcz28_7 : w26.cell? ⟨gb156, 7, none⟩ = some (.slice none 0 0) := (blk_cell BK156.out 7).trans rfl; have hfz28_0 := blk_frozen BK156.out 0; have hfz28_1 := blk_frozen BK156.out 1; have hfz28_2 := blk_frozen BK156.out 2; have hfz28_3 := blk_frozen BK156.out 3; have hfz28_4 := blk_frozen BK156.out 4; have hfz28_5 := blk_frozen BK156.out 5; have hfz28_6 := blk_frozen BK156.out 6; have hfz28_7 := blk_frozen BK156.out 7) | ((with_reducible refine gate_dst (N := 15) rfl ?_); refine arr_event Value.bool (fun _ => rfl) rfl (N := 15) rfl 137 257 _ _ _ false rfl info137 (by kernel_rfl) (by decide) ?_; intro go_y157 w29 ho30 hb; change Kd.bool.R 137 _ _ _ _ _ at ho30; have GB_y157 := Aside0.mk (Nat.le_trans (show Below w.heap.size w _ from by repeat (first | (with_reducible first | exact HB.out | apply below_alloc | apply pw_below_drewN | apply below_drew1 | refine below_set ?_ GE150.out | refine below_set ?_ GE156.out) | exact HB.out)).size (Kd.R_base ho30 _ rfl)); (first | rw [← Ny157.out] at ho30 | (simp only [Int.reduceToNat] at ho30; rw [← Ny157.out] at ho30)); have n0_ := Aside0.mk (Kd.R_lower ho30 (below_size (by repeat (first | (with_reducible first | exact HB.out | apply below_alloc | apply pw_below_drewN | apply below_drew1 | refine below_set ?_ GE150.out | refine below_set ?_ GE156.out) | exact HB.out)))); have n1_ := Aside0.mk (blk_below (g := gb150) (o := .cells #[.int .i64 0, .int .i64 0, .int .i64 0, .int .i64 0, .int .i64 0, .int .i64 0, .int .i64 0, .slice none 0 0] 50 (0, 0)) (by (with_reducible repeat (first | refine blk_drewN ?_ _ | refine blk_drew ?_ | refine blk_alloc ?_ _)); refine blk_far ?_ NB150_156.out _; (with_reducible repeat (first | refine blk_drewN ?_ _ | refine blk_drew ?_ | refine blk_alloc ?_ _)); refine blk_far ?_ NB150_156.out _; (with_reducible repeat (first | refine blk_drewN ?_ _ | refine blk_drew ?_ | refine blk_alloc ?_ _)); refine blk_far ?_ NB150_156.out _; (with_reducible repeat (first | refine blk_drewN ?_ _ | refine blk_drew ?_ | refine blk_alloc ?_ _)); refine blk_far ?_ NB150_156.out _; (with_reducible repeat (first | refine blk_drewN ?_ _ | refine blk_drew ?_ | refine blk_alloc ?_ _)); refine blk_far ?_ NB150_156.out _; (with_reducible repeat (first | refine blk_drewN ?_ _ | refine blk_drew ?_ | refine blk_alloc ?_ _)); refine blk_far ?_ NB150_156.out _; (with_reducible repeat (first | refine blk_drewN ?_ _ | refine blk_drew ?_ | refine blk_alloc ?_ _)); refine blk_far ?_ NB150_156.out _; (with_reducible repeat (first | refine blk_drewN ?_ _ | refine blk_drew ?_ | refine blk_alloc ?_ _)); refine blk_far ?_ NB150_156.out _; (with_reducible repeat (first | refine blk_drewN ?_ _ | refine blk_drew ?_ | refine blk_alloc ?_ _)); exact BK150.out) hb); have n2_ := Aside0.mk (blk_below (g := gb156) (o := .cells #[.int .i64 x9_23, .int .i64 x10_23, .int .i64 (wrap64 ((wrap64 (x11_23 - x9_23)) + 1)), .int .i64 (wrap64 ((wrap64 (x12_23 - x10_23)) + 1)), .int .i64 0, .int .i64 0, .int .i64 (-1), .slice none 0 0] 50 (0, 0)) (by (with_reducible repeat (first | refine blk_drewN ?_ _ | refine blk_drew ?_ | refine blk_alloc ?_ _)); refine blk_put (cs := #[.int .i64 x9_23, .int .i64 x10_23, .int .i64 (wrap64 ((wrap64 (x11_23 - x9_23)) + 1)), .int .i64 (wrap64 ((wrap64 (x12_23 - x10_23)) + 1)), .int .i64 0, .int .i64 0, .int .i64 (-1), .slice none 0 0]) ?_ 7 _ rfl; (with_reducible repeat (first | refine blk_drewN ?_ _ | refine blk_drew ?_ | refine blk_alloc ?_ _)); refine blk_put (cs := #[.int .i64 x9_23, .int .i64 x10_23, .int .i64 (wrap64 ((wrap64 (x11_23 - x9_23)) + 1)), .int .i64 (wrap64 ((wrap64 (x12_23 - x10_23)) + 1)), .int .i64 0, .int .i64 0, .int .i64 0, .slice none 0 0]) ?_ 6 _ rfl; (with_reducible repeat (first | refine blk_drewN ?_ _ | refine blk_drew ?_ | refine blk_alloc ?_ _)); refine blk_put (cs := #[.int .i64 x9_23, .int .i64 x10_23, .int .i64 (wrap64 ((wrap64 (x11_23 - x9_23)) + 1)), .int .i64 (wrap64 ((wrap64 (x12_23 - x10_23)) + 1)), .int .i64 0, .int .i64 0, .int .i64 0, .slice none 0 0]) ?_ 5 _ rfl; (with_reducible repeat (first | refine blk_drewN ?_ _ | refine blk_drew ?_ | refine blk_alloc ?_ _)); refine blk_put (cs := #[.int .i64 x9_23, .int .i64 x10_23, .int .i64 (wrap64 ((wrap64 (x11_23 - x9_23)) + 1)), .int .i64 (wrap64 ((wrap64 (x12_23 - x10_23)) + 1)), .int .i64 0, .int .i64 0, .int .i64 0, .slice none 0 0]) ?_ 4 _ rfl; (with_reducible repeat (first | refine blk_drewN ?_ _ | refine blk_drew ?_ | refine blk_alloc ?_ _)); refine blk_put (cs := #[.int .i64 x9_23, .int .i64 x10_23, .int .i64 (wrap64 ((wrap64 (x11_23 - x9_23)) + 1)), .int .i64 0, .int .i64 0, .int .i64 0, .int .i64 0, .slice none 0 0]) ?_ 3 _ rfl; (with_reducible repeat (first | refine blk_drewN ?_ _ | refine blk_drew ?_ | refine blk_alloc ?_ _)); refine blk_put (cs := #[.int .i64 x9_23, .int .i64 x10_23, .int .i64 0, .int .i64 0, .int .i64 0, .int .i64 0, .int .i64 0, .slice none 0 0]) ?_ 2 _ rfl; (with_reducible repeat (first | refine blk_drewN ?_ _ | refine blk_drew ?_ | refine blk_alloc ?_ _)); refine blk_put (cs := #[.int .i64 x9_23, .int .i64 0, .int .i64 0, .int .i64 0, .int .i64 0, .int .i64 0, .int .i64 0, .slice none 0 0]) ?_ 1 _ rfl; (with_reducible repeat (first | refine blk_drewN ?_ _ | refine blk_drew ?_ | refine blk_alloc ?_ _)); refine blk_put (cs := #[.int .i64 0, .int .i64 0, .int .i64 0, .int .i64 0, .int .i64 0, .int .i64 0, .int .i64 0, .slice none 0 0]) ?_ 0 _ rfl; (with_reducible repeat (first | refine blk_drewN ?_ _ | refine blk_drew ?_ | refine blk_alloc ?_ _)); exact BK156.out) hb); have n3_ := Aside0.mk (below_step (by repeat (first | (with_reducible first | exact HB.out | apply below_alloc | apply pw_below_drewN | apply below_drew1 | refine below_set ?_ GE150.out | refine below_set ?_ GE156.out) | exact HB.out)) hb); clear BK150; clear BK156; clear HB; have HO159 := n0_; have BK150 := n1_; have BK156 := n2_; have HB := n3_; clear n0_ n1_ n2_ n3_; clear hb ho30)); try go_quiet (first | ((with_reducible refine gate_dst (N := 15) rfl ?_); refine arr_event Value.bool (fun _ => rfl) rfl (N := 15) rfl 137 257 _ _ _ false rfl info137 (by kernel_rfl) (by decide) ?_; intro go_y157 w29 ho30 hb; change Kd.bool.R 137 _ _ _ _ _ at ho30; have GB_y157 := Aside0.mk (Nat.le_trans (show Below w.heap.size w _ from by repeat (first | (with_reducible first | exact HB.out | apply below_alloc | apply pw_below_drewN | apply below_drew1 | refine below_set ?_ GE150.out | refine below_set ?_ GE156.out) | exact HB.out)).size (Kd.R_base ho30 _ rfl)); (first | rw [← Ny157.out] at ho30 | (simp only [Int.reduceToNat] at ho30; rw [← Ny157.out] at ho30)); have n0_ := Aside0.mk (Kd.R_lower ho30 (below_size (by repeat (first | (with_reducible first | exact HB.out | apply below_alloc | apply pw_below_drewN | apply below_drew1 | refine below_set ?_ GE150.out | refine below_set ?_ GE156.out) | exact HB.out)))); have n1_ := Aside0.mk (blk_below (g := gb150) (o := .cells #[.int .i64 0, .int .i64 0, .int .i64 0, .int .i64 0, .int .i64 0, .int .i64 0, .int .i64 0, .slice none 0 0] 50 (0, 0)) (by (with_reducible repeat (first | refine blk_drewN ?_ _ | refine blk_drew ?_ | refine blk_alloc ?_ _)); refine blk_far ?_ NB150_156.out _; (with_reducible repeat (first | refine blk_drewN ?_ _ | refine blk_drew ?_ | refine blk_alloc ?_ _)); refine blk_far ?_ NB150_156.out _; (with_reducible repeat (first | refine blk_drewN ?_ _ | refine blk_drew ?_ | refine blk_alloc ?_ _)); refine blk_far ?_ NB150_156.out _; (with_reducible repeat (first | refine blk_drewN ?_ _ | refine blk_drew ?_ | refine blk_alloc ?_ _)); refine blk_far ?_ NB150_156.out _; (with_reducible repeat (first | refine blk_drewN ?_ _ | refine blk_drew ?_ | refine blk_alloc ?_ _)); refine blk_far ?_ NB150_156.out _; (with_reducible repeat (first | refine blk_drewN ?_ _ | refine blk_drew ?_ | refine blk_alloc ?_ _)); refine blk_far ?_ NB150_156.out _; (with_reducible repeat (first | refine blk_drewN ?_ _ | refine blk_drew ?_ | refine blk_alloc ?_ _)); refine blk_far ?_ NB150_156.out _; (with_reducible repeat (first | refine blk_drewN ?_ _ | refine blk_drew ?_ | refine blk_alloc ?_ _)); refine blk_far ?_ NB150_156.out _; (with_reducible repeat (first | refine blk_drewN ?_ _ | refine blk_drew ?_ | refine blk_alloc ?_ _)); exact BK150.out) hb); have n2_ := Aside0.mk (blk_below (g := gb156) (o := .cells #[.int .i64 x9_23, .int .i64 x10_23, .int .i64 (wrap64 ((wrap64 (x11_23 - x9_23)) + 1)), .int .i64 (wrap64 ((wrap64 (x12_23 - x10_23)) + 1)), .int .i64 0, .int .i64 0, .int .i64 (-1), .slice none 0 0] 50 (0, 0)) (by (with_reducible repeat (first | refine blk_drewN ?_ _ | refine blk_drew ?_ | refine blk_alloc ?_ _)); refine blk_put (cs := #[.int .i64 x9_23, .int .i64 x10_23, .int .i64 (wrap64 ((wrap64 (x11_23 - x9_23)) + 1)), .int .i64 (wrap64 ((wrap64 (x12_23 - x10_23)) + 1)), .int .i64 0, .int .i64 0, .int .i64 (-1), .slice none 0 0]) ?_ 7 _ rfl; (with_reducible repeat (first | refine blk_drewN ?_ _ | refine blk_drew ?_ | refine blk_alloc ?_ _)); refine blk_put (cs := #[.int .i64 x9_23, .int .i64 x10_23, .int .i64 (wrap64 ((wrap64 (x11_23 - x9_23)) + 1)), .int .i64 (wrap64 ((wrap64 (x12_23 - x10_23)) + 1)), .int .i64 0, .int .i64 0, .int .i64 0, .slice none 0 0]) ?_ 6 _ rfl; (with_reducible repeat (first | refine blk_drewN ?_ _ | refine blk_drew ?_ | refine blk_alloc ?_ _)); refine blk_put (cs := #[.int .i64 x9_23, .int .i64 x10_23, .int .i64 (wrap64 ((wrap64 (x11_23 - x9_23)) + 1)), .int .i64 (wrap64 ((wrap64 (x12_23 - x10_23)) + 1)), .int .i64 0, .int .i64 0, .int .i64 0, .slice none 0 0]) ?_ 5 _ rfl; (with_reducible repeat (first | refine blk_drewN ?_ _ | refine blk_drew ?_ | refine blk_alloc ?_ _)); refine blk_put (cs := #[.int .i64 x9_23, .int .i64 x10_23, .int .i64 (wrap64 ((wrap64 (x11_23 - x9_23)) + 1)), .int .i64 (wrap64 ((wrap64 (x12_23 - x10_23)) + 1)), .int .i64 0, .int .i64 0, .int .i64 0, .slice none 0 0]) ?_ 4 _ rfl; (with_reducible repeat (first | refine blk_drewN ?_ _ | refine blk_drew ?_ | refine blk_alloc ?_ _)); refine blk_put (cs := #[.int .i64 x9_23, .int .i64 x10_23, .int .i64 (wrap64 ((wrap64 (x11_23 - x9_23)) + 1)), .int .i64 0, .int .i64 0, .int .i64 0, .int .i64 0, .slice none 0 0]) ?_ 3 _ rfl; (with_reducible repeat (first | refine blk_drewN ?_ _ | refine blk_drew ?_ | refine blk_alloc ?_ _)); refine blk_put (cs := #[.int .i64 x9_23, .int .i64 x10_23, .int .i64 0, .int .i64 0, .int .i64 0, .int .i64 0, .int .i64 0, .slice none 0 0]) ?_ 2 _ rfl; (with_reducible repeat (first | refine blk_drewN ?_ _ | refine blk_drew ?_ | refine blk_alloc ?_ _)); refine blk_put (cs := #[.int .i64 x9_23, .int .i64 0, .int .i64 0, .int .i64 0, .int .i64 0, .int .i64 0, .int .i64 0, .slice none 0 0]) ?_ 1 _ rfl; (with_reducible repeat (first | refine blk_drewN ?_ _ | refine blk_drew ?_ | refine blk_alloc ?_ _)); refine blk_put (cs := #[.int .i64 0, .int .i64 0, .int .i64 0, .int .i64 0, .int .i64 0, .int .i64 0, .int .i64 0, .slice none 0 0]) ?_ 0 _ rfl; (with_reducible repeat (first | refine blk_drewN ?_ _ | refine blk_drew ?_ | refine blk_alloc ?_ _)); exact BK156.out) hb); have n3_ := Aside0.mk (below_step (by repeat (first | (with_reducible first | exact HB.out | apply below_alloc | apply pw_below_drewN | apply below_drew1 | refine below_set ?_ GE150.out | refine below_set ?_ GE156.out) | exact HB.out)) hb); clear BK150; clear BK156; clear HB; have HO159 := n0_; have BK150 := n1_; have BK156 := n2_; have HB := n3_; clear n0_ n1_ n2_ n3_; clear hb ho30)))
              go_loopg [16] kj23 (fun kq v16 w' => ∃ (x15_4 : List Bool) (x16_4 : Int) (x157007_4 : List Int) (u157007 : Value), v16 = .int .i64 x16_4 ∧ Aside0 (impl_Between.l1 kq a0 l3 x9_23 x11_23 x12_23 x15_4 x16_4 x9_23 x10_23 (wrap64 ((wrap64 (x11_23 - x9_23)) + 1)) (wrap64 ((wrap64 (x12_23 - x10_23)) + 1)) 0 0 (-1) x157007_4 = some (r1, r2, r3, r4, r5, r6, r7, r8)) ∧ Aside0 (kq ≤ kj23) ∧ Aside0 (Kd.R Kd.bool 137 w' w.heap.size (fun _ => True) (.slice (some ⟨go_y157, 0, none⟩) 257 257) x15_4) ∧ Aside0 (Kd.R (Kd.int .i64) 3 w' w.heap.size (fun _ => True) u157007 x157007_4) ∧ Aside0 (w'.heap[gb150]? = some (.cells #[.int .i64 0, .int .i64 0, .int .i64 0, .int .i64 0, .int .i64 0, .int .i64 0, .int .i64 0, (.slice none 0 0)] 50 (0, 0))) ∧ Aside0 (w'.heap[gb156]? = some (.cells #[.int .i64 x9_23, .int .i64 x10_23, .int .i64 (wrap64 ((wrap64 (x11_23 - x9_23)) + 1)), .int .i64 (wrap64 ((wrap64 (x12_23 - x10_23)) + 1)), .int .i64 0, .int .i64 0, .int .i64 (-1), u157007] 50 (0, 0))) ∧ Aside0 (Below w.heap.size w w'))
              case atStart => exact ⟨(y157), (x10_23), (([] : List Int)), (.slice none 0 0), (by first | rfl | (simp; done) | (simp [*]; done)), H', ⟨Nat.le_refl _⟩, ⟨by (with_reducible repeat (first | apply Kd.R_alloc | apply Kd.R_drewN | apply Kd.R_drew)); exact HO159.out⟩, ⟨by first | exact Kd.R_nil _ _ _ _ _ | exact Kd.N_nil _ _ _ _ _ | exact Kd.V_nil _ _ _ _ _ | exact Kd.Q_nil _ _ _ _ _ | exact Kd.S_nil _ _ _ _ _⟩, ⟨by (with_reducible repeat (first | refine blk_drewN ?_ _ | refine blk_drew ?_ | refine blk_alloc ?_ _)); exact BK150.out⟩, ⟨by (with_reducible repeat (first | refine blk_drewN ?_ _ | refine blk_drew ?_ | refine blk_alloc ?_ _)); exact BK156.out⟩, ⟨by repeat (first | (with_reducible first | exact HB.out | apply below_alloc | apply pw_below_drewN | apply below_drew1 | refine below_set ?_ GE150.out | refine below_set ?_ GE156.out) | exact HB.out)⟩⟩
              case round =>
                clear H'
                try clear c1
                try clear p1
                try clear q1
                try clear hx1
                try clear c2
                try clear p2
                try clear c3
                try clear p6
                try clear c8
                try clear c10
                try clear c12
                try clear c14
                try clear c14b0
                try clear c15
                try clear c15b0
                try clear p15
                try clear q15
                try clear hx15
                try clear c16
                try clear c16b0
                try clear c17
                try clear c17b0
                try clear c18
                try clear c18b0
                try clear c18b1
                try clear c19
                try clear c19b0
                try clear c19b1
                try clear c25
                try clear c25b0
                try clear c27
                try clear hcz13_0
                try clear hcz13_1
                try clear hcz13_2
                try clear hcz13_3
                try clear hcz13_4
                try clear hcz13_5
                try clear hcz13_6
                try clear hcz13_7
                try clear hcz28_0
                try clear hcz28_1
                try clear hcz28_2
                try clear hcz28_3
                try clear hcz28_4
                try clear hcz28_5
                try clear hcz28_6
                try clear hcz28_7
                try clear hfz13_0
                try clear hfz13_1
                try clear hfz13_2
                try clear hfz13_3
                try clear hfz13_4
                try clear hfz13_5
                try clear hfz13_6
                try clear hfz13_7
                try clear hfz28_0
                try clear hfz28_1
                try clear hfz28_2
                try clear hfz28_3
                try clear hfz28_4
                try clear hfz28_5
                try clear hfz28_6
                try clear hfz28_7
                try clear hx154_0
                try clear hx155_0
                try clear p1
                try clear p15
                try clear p154
                try clear p155
                try clear p2
                try clear p6
                try clear q1
                try clear q15
                try clear q154
                try clear q155
                obtain ⟨x15_4, x16_4, x157007_4, u157007, rfl, HA, HK4, HO_15, HO_157007, BK150, BK156, HB⟩ := hrel
                cases gk with
                | zero => exact absurd HA.out (by simp [impl_Between.l1])
                | succ k4 =>
                  have H := HA.out
                  clear HA
                  simp only [impl_Between.l1] at H
                  by_cases c31 : x16_4 ≤ x12_23
                  · rw [if_pos c31] at H
                    have c31b0 : decide (x16_4 ≤ x12_23) = true := decide_eq_true c31
                    clear c31
                    have H' := Aside0.mk H
                    clear H
                    go_wp2
                    repeat (go_quiet (fail); try go_wp2)
                    go_loopg [17] k4 (fun kq v17 w' => ∃ (x15_5 : List Bool) (x17_5 : Int) (x157007_5 : List Int) (u157007 : Value), v17 = .int .i64 x17_5 ∧ Aside0 (impl_Between.l2 kq a0 l3 x9_23 x11_23 x12_23 x15_5 x16_4 x17_5 x9_23 x10_23 (wrap64 ((wrap64 (x11_23 - x9_23)) + 1)) (wrap64 ((wrap64 (x12_23 - x10_23)) + 1)) 0 0 (-1) x157007_5 = some (r1, r2, r3, r4, r5, r6, r7, r8)) ∧ Aside0 (kq ≤ k4) ∧ Aside0 (Kd.R Kd.bool 137 w' w.heap.size (fun _ => True) (.slice (some ⟨go_y157, 0, none⟩) 257 257) x15_5) ∧ Aside0 (Kd.R (Kd.int .i64) 3 w' w.heap.size (fun _ => True) u157007 x157007_5) ∧ Aside0 (w'.heap[gb150]? = some (.cells #[.int .i64 0, .int .i64 0, .int .i64 0, .int .i64 0, .int .i64 0, .int .i64 0, .int .i64 0, (.slice none 0 0)] 50 (0, 0))) ∧ Aside0 (w'.heap[gb156]? = some (.cells #[.int .i64 x9_23, .int .i64 x10_23, .int .i64 (wrap64 ((wrap64 (x11_23 - x9_23)) + 1)), .int .i64 (wrap64 ((wrap64 (x12_23 - x10_23)) + 1)), .int .i64 0, .int .i64 0, .int .i64 (-1), u157007] 50 (0, 0))) ∧ Aside0 (Below w.heap.size w w'))
                    case atStart => exact ⟨(x15_4), (x9_23), (x157007_4), (u157007), (by first | rfl | (simp; done) | (simp [*]; done)), H', ⟨Nat.le_refl _⟩, ⟨by (with_reducible repeat (first | apply Kd.R_alloc | apply Kd.R_drewN | apply Kd.R_drew)); exact HO_15.out⟩, ⟨by (with_reducible repeat (first | apply Kd.R_alloc | apply Kd.R_drewN | apply Kd.R_drew)); exact HO_157007.out⟩, ⟨by (with_reducible repeat (first | refine blk_drewN ?_ _ | refine blk_drew ?_ | refine blk_alloc ?_ _)); exact BK150.out⟩, ⟨by (with_reducible repeat (first | refine blk_drewN ?_ _ | refine blk_drew ?_ | refine blk_alloc ?_ _)); exact BK156.out⟩, ⟨by repeat (first | (with_reducible first | exact HB.out | apply below_alloc | apply pw_below_drewN | apply below_drew1 | refine below_set ?_ GE150.out | refine below_set ?_ GE156.out) | exact HB.out)⟩⟩
                    case round =>
                      clear H'
                      try clear c1
                      try clear p1
                      try clear q1
                      try clear hx1
                      try clear c2
                      try clear p2
                      try clear c3
                      try clear p6
                      try clear c8
                      try clear c10
                      try clear c12
                      try clear c14
                      try clear c14b0
                      try clear c15
                      try clear c15b0
                      try clear p15
                      try clear q15
                      try clear hx15
                      try clear c16
                      try clear c16b0
                      try clear c17
                      try clear c17b0
                      try clear c18
                      try clear c18b0
                      try clear c18b1
                      try clear c19
                      try clear c19b0
                      try clear c19b1
                      try clear c25
                      try clear c25b0
                      try clear c27
                      try clear c31
                      try clear c31b0
                      try clear hcz13_0
                      try clear hcz13_1
                      try clear hcz13_2
                      try clear hcz13_3
                      try clear hcz13_4
                      try clear hcz13_5
                      try clear hcz13_6
                      try clear hcz13_7
                      try clear hcz28_0
                      try clear hcz28_1
                      try clear hcz28_2
                      try clear hcz28_3
                      try clear hcz28_4
                      try clear hcz28_5
                      try clear hcz28_6
                      try clear hcz28_7
                      try clear hfz13_0
                      try clear hfz13_1
                      try clear hfz13_2
                      try clear hfz13_3
                      try clear hfz13_4
                      try clear hfz13_5
                      try clear hfz13_6
                      try clear hfz13_7
                      try clear hfz28_0
                      try clear hfz28_1
                      try clear hfz28_2
                      try clear hfz28_3
                      try clear hfz28_4
                      try clear hfz28_5
                      try clear hfz28_6
                      try clear hfz28_7
                      try clear hx154_0
                      try clear hx155_0
                      try clear p1
                      try clear p15
                      try clear p154
                      try clear p155
                      try clear p2
                      try clear p6
                      try clear q1
                      try clear q15
                      try clear q154
                      try clear q155
                      obtain ⟨x15_5, x17_5, x157007_5, u157007, rfl, HA, HK5, HO_15, HO_157007, BK150, BK156, HB⟩ := hrel
                      cases gk with
                      | zero => exact absurd HA.out (by simp [impl_Between.l2])
                      | succ k5 =>
                        have H := HA.out
                        clear HA
                        simp only [impl_Between.l2] at H
                        by_cases c32 : x17_5 ≤ x11_23
                        rotate_left
                        · rw [if_neg c32] at H
                          have c32b0 : decide (x17_5 ≤ x11_23) = false := decide_eq_false c32
                          clear c32
                          have H' := Aside0.mk H
                          clear H
                          go_wp2
                          repeat (go_quiet (fail); try go_wp2)
                          go_roundg k5
                          case measure => have := HJ4.out; have := HK2.out; have := HJ23.out; have := HK4.out; have := HK5.out; omega
                          case rel => exact ⟨(x15_5), (wrap64 (x16_4 + 1)), (x157007_5), (u157007), (by first | rfl | (simp; done) | (simp [*]; done)), H', ⟨by have := HJ4.out; have := HK2.out; have := HJ23.out; have := HK4.out; have := HK5.out; omega⟩, ⟨by (with_reducible repeat (first | apply Kd.R_alloc | apply Kd.R_drewN | apply Kd.R_drew)); exact HO_15.out⟩, ⟨by (with_reducible repeat (first | apply Kd.R_alloc | apply Kd.R_drewN | apply Kd.R_drew)); exact HO_157007.out⟩, ⟨by (with_reducible repeat (first | refine blk_drewN ?_ _ | refine blk_drew ?_ | refine blk_alloc ?_ _)); exact BK150.out⟩, ⟨by (with_reducible repeat (first | refine blk_drewN ?_ _ | refine blk_drew ?_ | refine blk_alloc ?_ _)); exact BK156.out⟩, ⟨by repeat (first | (with_reducible first | exact HB.out | apply below_alloc | apply pw_below_drewN | apply below_drew1 | refine below_set ?_ GE150.out | refine below_set ?_ GE156.out) | exact HB.out)⟩⟩
                        rw [if_pos c32] at H
                        have c32b0 : decide (x17_5 ≤ x11_23) = true := decide_eq_true c32
                        clear c32
                        obtain ⟨ji33, hji33⟩ : ∃ j_ : Int, (wrap64 ((wrap64 (x16_4 * a0)) + x17_5)) = j_ := ⟨_, rfl⟩
                        replace H : (if 0 ≤ (ji33) then (if (ji33) < (l3.length : Int) then (if x157007_5.length < 17592186044416 then (if 0 ≤ (wrap64 ((rd l3 (ji33)) + 1)) then (if (wrap64 ((rd l3 (ji33)) + 1)) < 257 then (impl_Between.l2 k5 a0 l3 x9_23 x11_23 x12_23 (x15_5.set ((wrap64 ((rd l3 (ji33)) + 1)) : Int).toNat true) x16_4 (wrap64 (x17_5 + 1)) x9_23 x10_23 (wrap64 ((wrap64 (x11_23 - x9_23)) + 1)) (wrap64 ((wrap64 (x12_23 - x10_23)) + 1)) 0 0 (-1) (x157007_5 ++ [rd l3 (ji33)])) else (none)) else (none)) else (none)) else (none)) else (none)) = some (r1, r2, r3, r4, r5, r6, r7, r8) := by first | (rw [hji33] at H; exact H) | (simp only [hji33] at H ⊢; exact H)
                        have hji33w : (IntKind.i64.wrap ((wrap64 (x16_4 * a0)) + x17_5)) = ji33 := (i64_w _).trans hji33
                        by_cases c34 : 0 ≤ (ji33)
                        rotate_left
                        · rw [if_neg c34] at H
                          exact absurd H (by simp)
                        rw [if_pos c34] at H
                        have c34b0 : decide (0 ≤ (ji33)) = true := decide_eq_true c34
                        clear c34
                        by_cases c35 : (ji33) < (l3.length : Int)
                        rotate_left
                        · rw [if_neg c35] at H
                          exact absurd H (by simp)
                        rw [if_pos c35] at H
                        have c35b0 : decide ((ji33) < (l3.length : Int)) = true := decide_eq_true c35
                        clear c35
                        by_cases c36 : x157007_5.length < 17592186044416
                        rotate_left
                        · rw [if_neg c36] at H
                          exact absurd H (by simp)
                        rw [if_pos c36] at H
                        have LMc36 := Aside0.mk c36
                        clear c36
                        obtain ⟨y161, hy161⟩ : ∃ y_ : List Int, y_ = (x157007_5 ++ [rd l3 (ji33)]) := ⟨_, rfl⟩
                        replace H : (if 0 ≤ (wrap64 ((rd l3 (ji33)) + 1)) then (if (wrap64 ((rd l3 (ji33)) + 1)) < 257 then (impl_Between.l2 k5 a0 l3 x9_23 x11_23 x12_23 (x15_5.set ((wrap64 ((rd l3 (ji33)) + 1)) : Int).toNat true) x16_4 (wrap64 (x17_5 + 1)) x9_23 x10_23 (wrap64 ((wrap64 (x11_23 - x9_23)) + 1)) (wrap64 ((wrap64 (x12_23 - x10_23)) + 1)) 0 0 (-1) y161) else (none)) else (none)) = some (r1, r2, r3, r4, r5, r6, r7, r8) := by first | (rw [hy161]; with_reducible exact H) | (have H2_ := (Option.bind_some _ _).symm.trans H; rw [hy161]; with_reducible exact H2_) | (have H2_ := (Option.bind_some _ _).symm.trans H; with_reducible exact H2_) | with_reducible exact H | (rw [hy161]; exact H) | exact H
                        have Ny161 := Aside0.mk hy161
                        clear hy161
                        obtain ⟨ji37, hji37⟩ : ∃ j_ : Int, (wrap64 ((rd l3 (ji33)) + 1)) = j_ := ⟨_, rfl⟩
                        replace H : (if 0 ≤ (ji37) then (if (ji37) < 257 then (impl_Between.l2 k5 a0 l3 x9_23 x11_23 x12_23 (x15_5.set ((ji37) : Int).toNat true) x16_4 (wrap64 (x17_5 + 1)) x9_23 x10_23 (wrap64 ((wrap64 (x11_23 - x9_23)) + 1)) (wrap64 ((wrap64 (x12_23 - x10_23)) + 1)) 0 0 (-1) y161) else (none)) else (none)) = some (r1, r2, r3, r4, r5, r6, r7, r8) := by first | (rw [hji37] at H; exact H) | (simp only [hji37] at H ⊢; exact H)
                        have hji37w : (IntKind.i64.wrap ((rd l3 (ji33)) + 1)) = ji37 := (i64_w _).trans hji37
                        by_cases c38 : 0 ≤ (ji37)
                        rotate_left
                        · rw [if_neg c38] at H
                          exact absurd H (by simp)
                        rw [if_pos c38] at H
                        have c38b0 : decide (0 ≤ (ji37)) = true := decide_eq_true c38
                        clear c38
                        by_cases c39 : (ji37) < 257
                        rotate_left
                        · rw [if_neg c39] at H
                          exact absurd H (by simp)
                        rw [if_pos c39] at H
                        have c39b0 : decide ((ji37) < 257) = true := decide_eq_true c39
                        clear c39
                        obtain ⟨y164, hy164⟩ : ∃ y_ : List Bool, y_ = (x15_5.set ((ji37) : Int).toNat true) := ⟨_, rfl⟩
                        replace H : (impl_Between.l2 k5 a0 l3 x9_23 x11_23 x12_23 y164 x16_4 (wrap64 (x17_5 + 1)) x9_23 x10_23 (wrap64 ((wrap64 (x11_23 - x9_23)) + 1)) (wrap64 ((wrap64 (x12_23 - x10_23)) + 1)) 0 0 (-1) y161) = some (r1, r2, r3, r4, r5, r6, r7, r8) := by first | (rw [hy164]; with_reducible exact H) | (have H2_ := (Option.bind_some _ _).symm.trans H; rw [hy164]; with_reducible exact H2_) | (have H2_ := (Option.bind_some _ _).symm.trans H; with_reducible exact H2_) | with_reducible exact H | (rw [hy164]; exact H) | exact H
                        have Ny164 := Aside0.mk hy164
                        clear hy164
                        have H' := Aside0.mk H
                        clear H
                        have p160 : 0 ≤ ((ji33) : Int) := of_decide_eq_true (by first | (with_reducible assumption) | assumption)
                        have q160 : (ji33) < (l3.length : Int) := of_decide_eq_true (by first | (with_reducible assumption) | assumption)
                        obtain ⟨ad160, e160, hx160_0⟩ := Kd.at_int HR3.out (ji33) p160 q160
                        cases e160
                        replace hx160_0 := (HB.out.cell (World.block_lt_of_cell? w _ hx160_0)).trans hx160_0
                        replace p160 := eq_true p160
                        replace q160 := eq_true q160
                        have hnb41 := NB156_150.out
                        have hnc41 := NB150_156.out
                        have hcz42_0 : wr.cell? ⟨gb156, 0, none⟩ = some (.int .i64 x9_23) := (blk_cell BK156.out 0).trans rfl
                        have hcz42_1 : wr.cell? ⟨gb156, 1, none⟩ = some (.int .i64 x10_23) := (blk_cell BK156.out 1).trans rfl
                        have hcz42_2 : wr.cell? ⟨gb156, 2, none⟩ = some (.int .i64 (wrap64 ((wrap64 (x11_23 - x9_23)) + 1))) := (blk_cell BK156.out 2).trans rfl
                        have hcz42_3 : wr.cell? ⟨gb156, 3, none⟩ = some (.int .i64 (wrap64 ((wrap64 (x12_23 - x10_23)) + 1))) := (blk_cell BK156.out 3).trans rfl
                        have hcz42_4 : wr.cell? ⟨gb156, 4, none⟩ = some (.int .i64 0) := (blk_cell BK156.out 4).trans rfl
                        have hcz42_5 : wr.cell? ⟨gb156, 5, none⟩ = some (.int .i64 0) := (blk_cell BK156.out 5).trans rfl
                        have hcz42_6 : wr.cell? ⟨gb156, 6, none⟩ = some (.int .i64 (-1)) := (blk_cell BK156.out 6).trans rfl
                        have hcz42_7 : wr.cell? ⟨gb156, 7, none⟩ = some (u157007) := (blk_cell BK156.out 7).trans rfl
                        have hfz42_0 := blk_frozen BK156.out 0
                        have hfz42_1 := blk_frozen BK156.out 1
                        have hfz42_2 := blk_frozen BK156.out 2
                        have hfz42_3 := blk_frozen BK156.out 3
                        have hfz42_4 := blk_frozen BK156.out 4
                        have hfz42_5 := blk_frozen BK156.out 5
                        have hfz42_6 := blk_frozen BK156.out 6
                        have hfz42_7 := blk_frozen BK156.out 7
                        iterate 3 (try go_wp2_with (first | ((with_reducible refine gate_builtin (b := .append) (xs := #[.tmp 114, .tmp 116]) rfl ?_); at_builtin; refine Kd.R_append (Kd.int .i64) (w0 := w) w.heap.size rfl (.tmp 114) (.tmp 116) 22 3 (.int .i64 0) 8 rfl Try.underlying22 info3 rfl (by decide) (by omega) u157007 x157007_5 (rd l3 (ji33)) [.int .i64 (rd l3 (ji33))] (fun _ => True) (fun _ => False) rfl rfl ?aP (fun _ hk => hk.elim) ?aF ?aO ?aB ?aS ?aL ?_; (case aP => exact rfl); (case aB => exact (by repeat (first | (with_reducible first | exact HB.out | apply below_alloc | apply pw_below_drewN | apply below_drew1 | refine below_set ?_ GE150.out | refine below_set ?_ GE156.out) | exact HB.out))); (case aF => exact (fun _ _ => trivial)); (case aO => exact (by (with_reducible repeat (first | apply Kd.R_alloc | apply Kd.R_drewN | apply Kd.R_drew)); exact HO_157007.out)); (case aS => exact (below_size (by repeat (first | (with_reducible first | exact HB.out | apply below_alloc | apply pw_below_drewN | apply below_drew1 | refine below_set ?_ GE150.out | refine below_set ?_ GE156.out) | exact HB.out)))); (case aL => have := LMc36.out; omega); intro v162 w43 ho hb hg hat; rw [← Ny161.out] at ho; have n0_ := Aside0.mk (Kd.R_over' (by (with_reducible repeat (first | apply Kd.R_alloc | apply Kd.R_drewN | apply Kd.R_drew)); exact HO_15.out) (Kd.R_typed (by (with_reducible repeat (first | apply Kd.R_alloc | apply Kd.R_drewN | apply Kd.R_drew)); exact HO_157007.out)) (by decide) hg); have n1_ := Aside0.mk (blk_grown (g := gb150) (o := .cells #[.int .i64 0, .int .i64 0, .int .i64 0, .int .i64 0, .int .i64 0, .int .i64 0, .int .i64 0, .slice none 0 0] 50 (0, 0)) (by (with_reducible repeat (first | refine blk_drewN ?_ _ | refine blk_drew ?_ | refine blk_alloc ?_ _)); exact BK150.out) hg (Kd.R_ne HO_157007.out BK150.out (by decide))); have n2_ := Aside0.mk (blk_grown (g := gb156) (o := .cells #[.int .i64 x9_23, .int .i64 x10_23, .int .i64 (wrap64 ((wrap64 (x11_23 - x9_23)) + 1)), .int .i64 (wrap64 ((wrap64 (x12_23 - x10_23)) + 1)), .int .i64 0, .int .i64 0, .int .i64 (-1), u157007] 50 (0, 0)) (by (with_reducible repeat (first | refine blk_drewN ?_ _ | refine blk_drew ?_ | refine blk_alloc ?_ _)); exact BK156.out) hg (Kd.R_ne HO_157007.out BK156.out (by decide))); have n3_ := Aside0.mk (hb); have n4_ := Aside0.mk (ho); clear HO_15; clear BK150; clear BK156; clear HB; clear HO_157007; have HO_15 := n0_; have BK150 := n1_; have BK156 := n2_; have HB := n3_; have HO163 := n4_; clear n0_ n1_ n2_ n3_ n4_; clear ho hb hg hat; obtain ⟨Ao44, co44, eo44⟩ := Kd.R_slice HO163.out; subst eo44; have hcz45_0 : w43.cell? ⟨gb156, 0, none⟩ = some (.int .i64 x9_23) := (blk_cell BK156.out 0).trans rfl; have hcz45_1 : w43.cell? ⟨gb156, 1, none⟩ = some (.int .i64 x10_23) := (blk_cell BK156.out 1).trans rfl; have hcz45_2 : w43.cell? ⟨gb156, 2, none⟩ = some (.int .i64 (wrap64 ((wrap64 (x11_23 - x9_23)) + 1))) := (blk_cell BK156.out 2).trans rfl; have hcz45_3 : w43.cell? ⟨gb156, 3, none⟩ = some (.int .i64 (wrap64 ((wrap64 (x12_23 - x10_23)) + 1))) := (blk_cell BK156.out 3).trans rfl; have hcz45_4 : w43.cell? ⟨gb156, 4, none⟩ = some (.int .i64 0) := (blk_cell BK156.out 4).trans rfl; have hcz45_5 : w43.cell? ⟨gb156, 5, none⟩ = some (.int .i64 0) := (blk_cell BK156.out 5).trans rfl; have hcz45_6 : w43.cell? ⟨gb156, 6, none⟩ = some (.int .i64 (-1)) := (blk_cell BK156.out 6).trans rfl; have hcz45_7 : w43.cell? ⟨gb156, 7, none⟩ = some (u157007) := (blk_cell BK156.out 7).trans rfl; have hfz45_0 := blk_frozen BK156.out 0; have hfz45_1 := blk_frozen BK156.out 1; have hfz45_2 := blk_frozen BK156.out 2; have hfz45_3 := blk_frozen BK156.out 3; have hfz45_4 := blk_frozen BK156.out 4; have hfz45_5 := blk_frozen BK156.out 5; have hfz45_6 := blk_frozen BK156.out 6; have hfz45_7 := blk_frozen BK156.out 7) | ((with_reducible refine gate_store (t := 22) (p := 118) rfl ?_); (try (rw [drewN_self w43]; generalize hq_ : World.drewN w43 _ = w43; have n0_ := Aside0.mk (Kd.R_at hq_ HO_15.out); have n1_ := Aside0.mk (Kd.R_at hq_ HO163.out); have n2_ := Aside0.mk (blk_at hq_ BK150.out); have n3_ := Aside0.mk (blk_at hq_ BK156.out); have n4_ := Aside0.mk (below_at hq_ HB.out); clear hq_ HO_15 HO163 BK150 BK156 HB; have HO_15 := n0_; have HO163 := n1_; have BK150 := n2_; have BK156 := n3_; have HB := n4_; clear n0_ n1_ n2_ n3_ n4_)); refine store_event (t := 22) (p := 118) (v := ?vo_w46) (w1 := (w43.setCell ⟨gb156, 7, none⟩ (.slice Ao44 y161.length co44))) ?hg ?ho ?hn ?hr ?_; (case ho => rfl); (case hg => rfl); (case hn => rfl); (case hr => first | (go_simp; done) | (go_simp; rfl)); intro w46 hw; have n0_ : Aside0 (Kd.R Kd.bool 137 w46 w.heap.size (fun _ => True) (.slice (some ⟨go_y157, 0, none⟩) 257 257) x15_5) := ⟨(by rw [hw]; exact (by (with_reducible repeat (first | apply Kd.R_alloc | apply Kd.R_drewN | apply Kd.R_drew)); exact Kd.R_mono (Kd.R_far (p := ⟨gb156, 7, none⟩) (Kd.R_types HO_15.out BK156.out (by decide)) (fun _ hk => hk.2) (.slice Ao44 y161.length co44)) (fun _ hk => trivial)))⟩; have n1_ : Aside0 (Kd.R (Kd.int .i64) 3 w46 w.heap.size (fun _ => True) (.slice Ao44 y161.length co44) y161) := ⟨(by rw [hw]; exact (by (with_reducible repeat (first | apply Kd.R_alloc | apply Kd.R_drewN | apply Kd.R_drew)); exact Kd.R_mono (Kd.R_far (p := ⟨gb156, 7, none⟩) (Kd.R_types HO163.out BK156.out (by decide)) (fun _ hk => hk.2) (.slice Ao44 y161.length co44)) (fun _ hk => trivial)))⟩; have n2_ : Aside0 (w46.heap[gb150]? = some (.cells #[.int .i64 0, .int .i64 0, .int .i64 0, .int .i64 0, .int .i64 0, .int .i64 0, .int .i64 0, .slice none 0 0] 50 (0, 0))) := ⟨(by rw [hw]; exact (by (with_reducible repeat (first | refine blk_drewN ?_ _ | refine blk_drew ?_ | refine blk_alloc ?_ _)); refine blk_far ?_ NB150_156.out _; (with_reducible repeat (first | refine blk_drewN ?_ _ | refine blk_drew ?_ | refine blk_alloc ?_ _)); exact BK150.out))⟩; have n3_ : Aside0 (w46.heap[gb156]? = some (.cells #[.int .i64 x9_23, .int .i64 x10_23, .int .i64 (wrap64 ((wrap64 (x11_23 - x9_23)) + 1)), .int .i64 (wrap64 ((wrap64 (x12_23 - x10_23)) + 1)), .int .i64 0, .int .i64 0, .int .i64 (-1), .slice Ao44 y161.length co44] 50 (0, 0))) := ⟨(by rw [hw]; exact (by (with_reducible repeat (first | refine blk_drewN ?_ _ | refine blk_drew ?_ | refine blk_alloc ?_ _)); refine blk_put (cs := #[.int .i64 x9_23, .int .i64 x10_23, .int .i64 (wrap64 ((wrap64 (x11_23 - x9_23)) + 1)), .int .i64 (wrap64 ((wrap64 (x12_23 - x10_23)) + 1)), .int .i64 0, .int .i64 0, .int .i64 (-1), u157007]) ?_ 7 _ rfl; (with_reducible repeat (first | refine blk_drewN ?_ _ | refine blk_drew ?_ | refine blk_alloc ?_ _)); exact BK156.out))⟩; have n4_ : Aside0 (Below w.heap.size w w46) := ⟨(by rw [hw]; exact (by repeat (first | (with_reducible first | exact HB.out | apply below_alloc | apply pw_below_drewN | apply below_drew1 | refine below_set ?_ GE150.out | refine below_set ?_ GE156.out) | exact HB.out)))⟩; clear hw; clear HO_15; clear HO163; clear BK150; clear BK156; clear HB; have HO_15 := n0_; have HO163 := n1_; have BK150 := n2_; have BK156 := n3_; have HB := n4_; clear n0_ n1_ n2_ n3_ n4_; have p40 : 0 ≤ ((ji37) : Int) := of_decide_eq_true (by first | (with_reducible assumption) | assumption); have q40 : ((ji37) : Int) < (257 : Int) := of_decide_eq_true (by first | (with_reducible assumption) | assumption); obtain ⟨hx40_0, hf40_0⟩ := Kd.R_celln false HO_15.out ((ji37) : Int) p40 q40; replace p40 := eq_true p40; replace q40 := eq_true q40; obtain ⟨hy47_, hz47_⟩ := Kd.R_celln false HO_15.out ((ji37) : Int) (of_decide_eq_true (by first | (with_reducible assumption) | assumption)) (of_decide_eq_true (by first | (with_reducible assumption) | assumption)); have HP47 := Kd.R_putg HO_15.out ((ji37) : Int) true) | ((with_reducible refine gate_store (t := 4) (p := 121) rfl ?_); (try (rw [drewN_self w46]; generalize hq_ : World.drewN w46 _ = w46; have n0_ := Aside0.mk (Kd.R_at hq_ HO_15.out); have n1_ := Aside0.mk (Kd.R_at hq_ HO163.out); have n2_ := Aside0.mk (blk_at hq_ BK150.out); have n3_ := Aside0.mk (blk_at hq_ BK156.out); have n4_ := Aside0.mk (below_at hq_ HB.out); clear hq_ HO_15 HO163 BK150 BK156 HB; have HO_15 := n0_; have HO163 := n1_; have BK150 := n2_; have BK156 := n3_; have HB := n4_; clear n0_ n1_ n2_ n3_ n4_; (try (obtain ⟨hy47_, hz47_⟩ := Kd.R_celln false HO_15.out ((ji37) : Int) (of_decide_eq_true (by first | (with_reducible assumption) | assumption)) (of_decide_eq_true (by first | (with_reducible assumption) | assumption)))); (try (have HP47 := Kd.R_putg HO_15.out ((ji37) : Int) true)))); refine store_event (t := 4) (p := 121) (v := ?vo_w48) (w1 := (w46.setCell ⟨go_y157, ((ji37) : Int).toNat, none⟩ (.bool true))) ?hg ?ho ?hn ?hr ?_; (case ho => rfl); (case hg => rfl); (case hn => rfl); (case hr => first | (go_simp; done) | (go_simp; rfl)); intro w48 hw; have hg : w46.grownBy w48 (some go_y157) := (by rw [hw]; exact HP47.2); have hp_ : Kd.R Kd.bool 137 w48 w.heap.size (fun _ => True) (.slice (some ⟨go_y157, 0, none⟩) 257 257) y164 := (by rw [hw, Ny164.out]; exact HP47.1); clear HP47; have n0_ := Aside0.mk (hp_); have n1_ := Aside0.mk (blk_grown (g := gb150) (o := .cells #[.int .i64 0, .int .i64 0, .int .i64 0, .int .i64 0, .int .i64 0, .int .i64 0, .int .i64 0, .slice none 0 0] 50 (0, 0)) (by (with_reducible repeat (first | refine blk_drewN ?_ _ | refine blk_drew ?_ | refine blk_alloc ?_ _)); exact BK150.out) hg (Kd.R_ne HO_15.out BK150.out (by decide))); have n2_ := Aside0.mk (blk_grown (g := gb156) (o := .cells #[.int .i64 x9_23, .int .i64 x10_23, .int .i64 (wrap64 ((wrap64 (x11_23 - x9_23)) + 1)), .int .i64 (wrap64 ((wrap64 (x12_23 - x10_23)) + 1)), .int .i64 0, .int .i64 0, .int .i64 (-1), .slice Ao44 y161.length co44] 50 (0, 0)) (by (with_reducible repeat (first | refine blk_drewN ?_ _ | refine blk_drew ?_ | refine blk_alloc ?_ _)); exact BK156.out) hg (Kd.R_ne HO_15.out BK156.out (by decide))); have n3_ := Aside0.mk (Kd.R_over' (v := (.slice (some ⟨go_y157, 0, none⟩) 257 257)) (by (with_reducible repeat (first | apply Kd.R_alloc | apply Kd.R_drewN | apply Kd.R_drew)); exact HO163.out) (Kd.R_typed HO_15.out) (by decide) hg); have n4_ := Aside0.mk ((by rw [hw]; exact below_set (HB.out) GB_y157.out : Below w.heap.size w w48)); clear HO_15; clear BK150; clear BK156; clear HO163; clear HB; have HO_15 := n0_; have BK150 := n1_; have BK156 := n2_; have HO163 := n3_; have HB := n4_; clear n0_ n1_ n2_ n3_ n4_; clear hg hw hp_)); try go_quiet (first | ((with_reducible refine gate_builtin (b := .append) (xs := #[.tmp 114, .tmp 116]) rfl ?_); at_builtin; refine Kd.R_append (Kd.int .i64) (w0 := w) w.heap.size rfl (.tmp 114) (.tmp 116) 22 3 (.int .i64 0) 8 rfl Try.underlying22 info3 rfl (by decide) (by omega) u157007 x157007_5 (rd l3 (ji33)) [.int .i64 (rd l3 (ji33))] (fun _ => True) (fun _ => False) rfl rfl ?aP (fun _ hk => hk.elim) ?aF ?aO ?aB ?aS ?aL ?_; (case aP => exact rfl); (case aB => exact (by repeat (first | (with_reducible first | exact HB.out | apply below_alloc | apply pw_below_drewN | apply below_drew1 | refine below_set ?_ GE150.out | refine below_set ?_ GE156.out) | exact HB.out))); (case aF => exact (fun _ _ => trivial)); (case aO => exact (by (with_reducible repeat (first | apply Kd.R_alloc | apply Kd.R_drewN | apply Kd.R_drew)); exact HO_157007.out)); (case aS => exact (below_size (by repeat (first | (with_reducible first | exact HB.out | apply below_alloc | apply pw_below_drewN | apply below_drew1 | refine below_set ?_ GE150.out | refine below_set ?_ GE156.out) | exact HB.out)))); (case aL => have := LMc36.out; omega); intro v162 w43 ho hb hg hat; rw [← Ny161.out] at ho; have n0_ := Aside0.mk (Kd.R_over' (by (with_reducible repeat (first | apply Kd.R_alloc | apply Kd.R_drewN | apply Kd.R_drew)); exact HO_15.out) (Kd.R_typed (by (with_reducible repeat (first | apply Kd.R_alloc | apply Kd.R_drewN | apply Kd.R_drew)); exact HO_157007.out)) (by decide) hg); have n1_ := Aside0.mk (blk_grown (g := gb150) (o := .cells #[.int .i64 0, .int .i64 0, .int .i64 0, .int .i64 0, .int .i64 0, .int .i64 0, .int .i64 0, .slice none 0 0] 50 (0, 0)) (by (with_reducible repeat (first | refine blk_drewN ?_ _ | refine blk_drew ?_ | refine blk_alloc ?_ _)); exact BK150.out) hg (Kd.R_ne HO_157007.out BK150.out (by decide))); have n2_ := Aside0.mk (blk_grown (g := gb156) (o := .cells #[.int .i64 x9_23, .int .i64 x10_23, .int .i64 (wrap64 ((wrap64 (x11_23 - x9_23)) + 1)), .int .i64 (wrap64 ((wrap64 (x12_23 - x10_23)) + 1)), .int .i64 0, .int .i64 0, .int .i64 (-1), u157007] 50 (0, 0)) (by (with_reducible repeat (first | refine blk_drewN ?_ _ | refine blk_drew ?_ | refine blk_alloc ?_ _)); exact BK156.out) hg (Kd.R_ne HO_157007.out BK156.out (by decide))); have n3_ := Aside0.mk (hb); have n4_ := Aside0.mk (ho); clear HO_15; clear BK150; clear BK156; clear HB; clear HO_157007; have HO_15 := n0_; have BK150 := n1_; have BK156 := n2_; have HB := n3_; have HO163 := n4_; clear n0_ n1_ n2_ n3_ n4_; clear ho hb hg hat; obtain ⟨Ao44, co44, eo44⟩ := Kd.R_slice HO163.out; subst eo44; have hcz45_0 : w43.cell? ⟨gb156, 0, none⟩ = some (.int .i64 x9_23) := (blk_cell BK156.out 0).trans rfl; have hcz45_1 : w43.cell? ⟨gb156, 1, none⟩ = some (.int .i64 x10_23) := (blk_cell BK156.out 1).trans rfl; have hcz45_2 : w43.cell? ⟨gb156, 2, none⟩ = some (.int .i64 (wrap64 ((wrap64 (x11_23 - x9_23)) + 1))) := (blk_cell BK156.out 2).trans rfl; have hcz45_3 : w43.cell? ⟨gb156, 3, none⟩ = some (.int .i64 (wrap64 ((wrap64 (x12_23 - x10_23)) + 1))) := (blk_cell BK156.out 3).trans rfl; have hcz45_4 : w43.cell? ⟨gb156, 4, none⟩ = some (.int .i64 0) := (blk_cell BK156.out 4).trans rfl; have hcz45_5 : w43.cell? ⟨gb156, 5, none⟩ = some (.int .i64 0) := (blk_cell BK156.out 5).trans rfl; have hcz45_6 : w43.cell? ⟨gb156, 6, none⟩ = some (.int .i64 (-1)) := (blk_cell BK156.out 6).trans rfl; have hcz45_7 : w43.cell? ⟨gb156, 7, none⟩ = some (u157007) := (blk_cell BK156.out 7).trans rfl; have hfz45_0 := blk_frozen BK156.out 0; have hfz45_1 := blk_frozen BK156.out 1; have hfz45_2 := blk_frozen BK156.out 2; have hfz45_3 := blk_frozen BK156.out 3; have hfz45_4 := blk_frozen BK156.out 4; have hfz45_5 := blk_frozen BK156.out 5; have hfz45_6 := blk_frozen BK156.out 6; have hfz45_7 := blk_frozen BK156.out 7) | ((with_reducible refine gate_store (t := 22) (p := 118) rfl ?_); (try (rw [drewN_self w43]; generalize hq_ : World.drewN w43 _ = w43; have n0_ := Aside0.mk (Kd.R_at hq_ HO_15.out); have n1_ := Aside0.mk (Kd.R_at hq_ HO163.out); have n2_ := Aside0.mk (blk_at hq_ BK150.out); have n3_ := Aside0.mk (blk_at hq_ BK156.out); have n4_ := Aside0.mk (below_at hq_ HB.out); clear hq_ HO_15 HO163 BK150 BK156 HB; have HO_15 := n0_; have HO163 := n1_; have BK150 := n2_; have BK156 := n3_; have HB := n4_; clear n0_ n1_ n2_ n3_ n4_)); refine store_event (t := 22) (p := 118) (v := ?vo_w46) (w1 := (w43.setCell ⟨gb156, 7, none⟩ (.slice Ao44 y161.length co44))) ?hg ?ho ?hn ?hr ?_; (case ho => rfl); (case hg => rfl); (case hn => rfl); (case hr => first | (go_simp; done) | (go_simp; rfl)); intro w46 hw; have n0_ : Aside0 (Kd.R Kd.bool 137 w46 w.heap.size (fun _ => True) (.slice (some ⟨go_y157, 0, none⟩) 257 257) x15_5) := ⟨(by rw [hw]; exact (by (with_reducible repeat (first | apply Kd.R_alloc | apply Kd.R_drewN | apply Kd.R_drew)); exact Kd.R_mono (Kd.R_far (p := ⟨gb156, 7, none⟩) (Kd.R_types HO_15.out BK156.out (by decide)) (fun _ hk => hk.2) (.slice Ao44 y161.length co44)) (fun _ hk => trivial)))⟩; have n1_ : Aside0 (Kd.R (Kd.int .i64) 3 w46 w.heap.size (fun _ => True) (.slice Ao44 y161.length co44) y161) := ⟨(by rw [hw]; exact (by (with_reducible repeat (first | apply Kd.R_alloc | apply Kd.R_drewN | apply Kd.R_drew)); exact Kd.R_mono (Kd.R_far (p := ⟨gb156, 7, none⟩) (Kd.R_types HO163.out BK156.out (by decide)) (fun _ hk => hk.2) (.slice Ao44 y161.length co44)) (fun _ hk => trivial)))⟩; have n2_ : Aside0 (w46.heap[gb150]? = some (.cells #[.int .i64 0, .int .i64 0, .int .i64 0, .int .i64 0, .int .i64 0, .int .i64 0, .int .i64 0, .slice none 0 0] 50 (0, 0))) := ⟨(by rw [hw]; exact (by (with_reducible repeat (first | refine blk_drewN ?_ _ | refine blk_drew ?_ | refine blk_alloc ?_ _)); refine blk_far ?_ NB150_156.out _; (with_reducible repeat (first | refine blk_drewN ?_ _ | refine blk_drew ?_ | refine blk_alloc ?_ _)); exact BK150.out))⟩; have n3_ : Aside0 (w46.heap[gb156]? = some (.cells #[.int .i64 x9_23, .int .i64 x10_23, .int .i64 (wrap64 ((wrap64 (x11_23 - x9_23)) + 1)), .int .i64 (wrap64 ((wrap64 (x12_23 - x10_23)) + 1)), .int .i64 0, .int .i64 0, .int .i64 (-1), .slice Ao44 y161.length co44] 50 (0, 0))) := ⟨(by rw [hw]; exact (by (with_reducible repeat (first | refine blk_drewN ?_ _ | refine blk_drew ?_ | refine blk_alloc ?_ _)); refine blk_put (cs := #[.int .i64 x9_23, .int .i64 x10_23, .int .i64 (wrap64 ((wrap64 (x11_23 - x9_23)) + 1)), .int .i64 (wrap64 ((wrap64 (x12_23 - x10_23)) + 1)), .int .i64 0, .int .i64 0, .int .i64 (-1), u157007]) ?_ 7 _ rfl; (with_reducible repeat (first | refine blk_drewN ?_ _ | refine blk_drew ?_ | refine blk_alloc ?_ _)); exact BK156.out))⟩; have n4_ : Aside0 (Below w.heap.size w w46) := ⟨(by rw [hw]; exact (by repeat (first | (with_reducible first | exact HB.out | apply below_alloc | apply pw_below_drewN | apply below_drew1 | refine below_set ?_ GE150.out | refine below_set ?_ GE156.out) | exact HB.out)))⟩; clear hw; clear HO_15; clear HO163; clear BK150; clear BK156; clear HB; have HO_15 := n0_; have HO163 := n1_; have BK150 := n2_; have BK156 := n3_; have HB := n4_; clear n0_ n1_ n2_ n3_ n4_; have p40 : 0 ≤ ((ji37) : Int) := of_decide_eq_true (by first | (with_reducible assumption) | assumption); have q40 : ((ji37) : Int) < (257 : Int) := of_decide_eq_true (by first | (with_reducible assumption) | assumption); obtain ⟨hx40_0, hf40_0⟩ := Kd.R_celln false HO_15.out ((ji37) : Int) p40 q40; replace p40 := eq_true p40; replace q40 := eq_true q40; obtain ⟨hy47_, hz47_⟩ := Kd.R_celln false HO_15.out ((ji37) : Int) (of_decide_eq_true (by first | (with_reducible assumption) | assumption)) (of_decide_eq_true (by first | (with_reducible assumption) | assumption)); have HP47 := Kd.R_putg HO_15.out ((ji37) : Int) true) | ((with_reducible refine gate_store (t := 4) (p := 121) rfl ?_); (try (rw [drewN_self w46]; generalize hq_ : World.drewN w46 _ = w46; have n0_ := Aside0.mk (Kd.R_at hq_ HO_15.out); have n1_ := Aside0.mk (Kd.R_at hq_ HO163.out); have n2_ := Aside0.mk (blk_at hq_ BK150.out); have n3_ := Aside0.mk (blk_at hq_ BK156.out); have n4_ := Aside0.mk (below_at hq_ HB.out); clear hq_ HO_15 HO163 BK150 BK156 HB; have HO_15 := n0_; have HO163 := n1_; have BK150 := n2_; have BK156 := n3_; have HB := n4_; clear n0_ n1_ n2_ n3_ n4_; (try (obtain ⟨hy47_, hz47_⟩ := Kd.R_celln false HO_15.out ((ji37) : Int) (of_decide_eq_true (by first | (with_reducible assumption) | assumption)) (of_decide_eq_true (by first | (with_reducible assumption) | assumption)))); (try (have HP47 := Kd.R_putg HO_15.out ((ji37) : Int) true)))); refine store_event (t := 4) (p := 121) (v := ?vo_w48) (w1 := (w46.setCell ⟨go_y157, ((ji37) : Int).toNat, none⟩ (.bool true))) ?hg ?ho ?hn ?hr ?_; (case ho => rfl); (case hg => rfl); (case hn => rfl); (case hr => first | (go_simp; done) | (go_simp; rfl)); intro w48 hw; have hg : w46.grownBy w48 (some go_y157) := (by rw [hw]; exact HP47.2); have hp_ : Kd.R Kd.bool 137 w48 w.heap.size (fun _ => True) (.slice (some ⟨go_y157, 0, none⟩) 257 257) y164 := (by rw [hw, Ny164.out]; exact HP47.1); clear HP47; have n0_ := Aside0.mk (hp_); have n1_ := Aside0.mk (blk_grown (g := gb150) (o := .cells #[.int .i64 0, .int .i64 0, .int .i64 0, .int .i64 0, .int .i64 0, .int .i64 0, .int .i64 0, .slice none 0 0] 50 (0, 0)) (by (with_reducible repeat (first | refine blk_drewN ?_ _ | refine blk_drew ?_ | refine blk_alloc ?_ _)); exact BK150.out) hg (Kd.R_ne HO_15.out BK150.out (by decide))); have n2_ := Aside0.mk (blk_grown (g := gb156) (o := .cells #[.int .i64 x9_23, .int .i64 x10_23, .int .i64 (wrap64 ((wrap64 (x11_23 - x9_23)) + 1)), .int .i64 (wrap64 ((wrap64 (x12_23 - x10_23)) + 1)), .int .i64 0, .int .i64 0, .int .i64 (-1), .slice Ao44 y161.length co44] 50 (0, 0)) (by (with_reducible repeat (first | refine blk_drewN ?_ _ | refine blk_drew ?_ | refine blk_alloc ?_ _)); exact BK156.out) hg (Kd.R_ne HO_15.out BK156.out (by decide))); have n3_ := Aside0.mk (Kd.R_over' (v := (.slice (some ⟨go_y157, 0, none⟩) 257 257)) (by (with_reducible repeat (first | apply Kd.R_alloc | apply Kd.R_drewN | apply Kd.R_drew)); exact HO163.out) (Kd.R_typed HO_15.out) (by decide) hg); have n4_ := Aside0.mk ((by rw [hw]; exact below_set (HB.out) GB_y157.out : Below w.heap.size w w48)); clear HO_15; clear BK150; clear BK156; clear HO163; clear HB; have HO_15 := n0_; have BK150 := n1_; have BK156 := n2_; have HO163 := n3_; have HB := n4_; clear n0_ n1_ n2_ n3_ n4_; clear hg hw hp_)))
                        go_roundg k5
                        case measure => have := HJ4.out; have := HK2.out; have := HJ23.out; have := HK4.out; have := HK5.out; omega
                        case rel => exact ⟨(y164), (wrap64 (x17_5 + 1)), (y161), (.slice Ao44 y161.length co44), (by first | rfl | (simp; done) | (simp [*]; done)), H', ⟨by have := HJ4.out; have := HK2.out; have := HJ23.out; have := HK4.out; have := HK5.out; omega⟩, ⟨by (with_reducible repeat (first | apply Kd.R_alloc | apply Kd.R_drewN | apply Kd.R_drew)); exact HO_15.out⟩, ⟨by (with_reducible repeat (first | apply Kd.R_alloc | apply Kd.R_drewN | apply Kd.R_drew)); exact HO163.out⟩, ⟨by (with_reducible repeat (first | refine blk_drewN ?_ _ | refine blk_drew ?_ | refine blk_alloc ?_ _)); exact BK150.out⟩, ⟨by (with_reducible repeat (first | refine blk_drewN ?_ _ | refine blk_drew ?_ | refine blk_alloc ?_ _)); exact BK156.out⟩, ⟨by repeat (first | (with_reducible first | exact HB.out | apply below_alloc | apply pw_below_drewN | apply below_drew1 | refine below_set ?_ GE150.out | refine below_set ?_ GE156.out) | exact HB.out)⟩⟩
                  rw [if_neg c31] at H
                  have c31b0 : decide (x16_4 ≤ x12_23) = false := decide_eq_false c31
                  clear c31
                  obtain ⟨bq49, hbq49⟩ : ∃ b_ : Bool, b_ = (rdOf false x15_4 0) := ⟨_, rfl⟩
                  replace H : (if bq49 = true then (impl_Between.l3 k4 x15_4 0 x9_23 x10_23 (wrap64 ((wrap64 (x11_23 - x9_23)) + 1)) (wrap64 ((wrap64 (x12_23 - x10_23)) + 1)) 0 0 (-1) x157007_4) else (some (x9_23, x10_23, (wrap64 ((wrap64 (x11_23 - x9_23)) + 1)), (wrap64 ((wrap64 (x12_23 - x10_23)) + 1)), 0, 0, (-1), x157007_4))) = some (r1, r2, r3, r4, r5, r6, r7, r8) := by rw [← hbq49] at H; exact H
                  have Nbq49 := Aside0.mk hbq49
                  clear hbq49
                  by_cases c50 : bq49 = true
                  rotate_left
                  · replace c50 := Bool.eq_false_iff.mpr c50
                    subst c50
                    have H1 : (some (x9_23, x10_23, (wrap64 ((wrap64 (x11_23 - x9_23)) + 1)), (wrap64 ((wrap64 (x12_23 - x10_23)) + 1)), 0, 0, (-1), x157007_4)) = some (r1, r2, r3, r4, r5, r6, r7, r8) := by rw [if_neg (show ¬ (false = true) by decide)] at H; exact H
                    clear H
                    have H := H1
                    clear H1
                    simp only [Option.some.injEq, Prod.mk.injEq] at H
                    obtain ⟨rfl, rfl, rfl, rfl, rfl, rfl, rfl, rfl⟩ := H
                    have p165 : 0 ≤ (0 : Int) := (by omega)
                    have q165 : 0 < (x15_4.length : Int) := (by have e_ := (Kd.R_reads' HO_15.out).1; omega)
                    obtain ⟨ad165, e165, hx165_0⟩ := Kd.at_bool (Kd.R_reads' HO_15.out).2.2 0 p165 q165
                    (try rw [← Nbq49.out] at hx165_0)
                    obtain rfl : (⟨go_y157, 0, none⟩ : Addr) = ad165 := (by injection e165)
                    (first | simp only [add_plain] at hx165_0 | simp only [add_at] at hx165_0 | simp only [Addr.add, Nat.zero_add] at hx165_0 | skip)
                    have qi165 : (0 < x15_4.length) = True := eq_true (by omega)
                    (try rw [show ((0 : Int)).toNat = 0 from rfl] at hx165_0)
                    (try rw [Addr.add_zero'] at hx165_0)
                    replace p165 := eq_true p165
                    replace q165 := eq_true q165
                    have hnb75 := NB156_150.out
                    have hnc75 := NB150_156.out
                    have hcz76_0 : wr.cell? ⟨gb156, 0, none⟩ = some (.int .i64 x9_23) := (blk_cell BK156.out 0).trans rfl
                    have hcz76_1 : wr.cell? ⟨gb156, 1, none⟩ = some (.int .i64 x10_23) := (blk_cell BK156.out 1).trans rfl
                    have hcz76_2 : wr.cell? ⟨gb156, 2, none⟩ = some (.int .i64 (wrap64 ((wrap64 (x11_23 - x9_23)) + 1))) := (blk_cell BK156.out 2).trans rfl
                    have hcz76_3 : wr.cell? ⟨gb156, 3, none⟩ = some (.int .i64 (wrap64 ((wrap64 (x12_23 - x10_23)) + 1))) := (blk_cell BK156.out 3).trans rfl
                    have hcz76_4 : wr.cell? ⟨gb156, 4, none⟩ = some (.int .i64 0) := (blk_cell BK156.out 4).trans rfl
                    have hcz76_5 : wr.cell? ⟨gb156, 5, none⟩ = some (.int .i64 0) := (blk_cell BK156.out 5).trans rfl
                    have hcz76_6 : wr.cell? ⟨gb156, 6, none⟩ = some (.int .i64 (-1)) := (blk_cell BK156.out 6).trans rfl
                    have hcz76_7 : wr.cell? ⟨gb156, 7, none⟩ = some (u157007) := (blk_cell BK156.out 7).trans rfl
                    have hfz76_0 := blk_frozen BK156.out 0
                    have hfz76_1 := blk_frozen BK156.out 1
                    have hfz76_2 := blk_frozen BK156.out 2
                    have hfz76_3 := blk_frozen BK156.out 3
                    have hfz76_4 := blk_frozen BK156.out 4
                    have hfz76_5 := blk_frozen BK156.out 5
                    have hfz76_6 := blk_frozen BK156.out 6
                    have hfz76_7 := blk_frozen BK156.out 7
                    have hcz77_0 : wr.cell? ⟨gb150, 0, none⟩ = some (.int .i64 0) := (blk_cell BK150.out 0).trans rfl
                    have hcz77_1 : wr.cell? ⟨gb150, 1, none⟩ = some (.int .i64 0) := (blk_cell BK150.out 1).trans rfl
                    have hcz77_2 : wr.cell? ⟨gb150, 2, none⟩ = some (.int .i64 0) := (blk_cell BK150.out 2).trans rfl
                    have hcz77_3 : wr.cell? ⟨gb150, 3, none⟩ = some (.int .i64 0) := (blk_cell BK150.out 3).trans rfl
                    have hcz77_4 : wr.cell? ⟨gb150, 4, none⟩ = some (.int .i64 0) := (blk_cell BK150.out 4).trans rfl
                    have hcz77_5 : wr.cell? ⟨gb150, 5, none⟩ = some (.int .i64 0) := (blk_cell BK150.out 5).trans rfl
                    have hcz77_6 : wr.cell? ⟨gb150, 6, none⟩ = some (.int .i64 0) := (blk_cell BK150.out 6).trans rfl
                    have hcz77_7 : wr.cell? ⟨gb150, 7, none⟩ = some (.slice none 0 0) := (blk_cell BK150.out 7).trans rfl
                    have hfz77_0 := blk_frozen BK150.out 0
                    have hfz77_1 := blk_frozen BK150.out 1
                    have hfz77_2 := blk_frozen BK150.out 2
                    have hfz77_3 := blk_frozen BK150.out 3
                    have hfz77_4 := blk_frozen BK150.out 4
                    have hfz77_5 := blk_frozen BK150.out 5
                    have hfz77_6 := blk_frozen BK150.out 6
                    have hfz77_7 := blk_frozen BK150.out 7
                    obtain ⟨Ao78, co78, eo78⟩ := Kd.R_slice HO_157007.out
                    subst eo78
                    go_wp2
                    repeat (go_quiet (fail); try go_wp2)
                    refine bodyPost_ret (results_cell_row rfl _ _ gb150 50 #[.int .i64 x9_23, .int .i64 x10_23, .int .i64 (wrap64 ((wrap64 (x11_23 - x9_23)) + 1)), .int .i64 (wrap64 ((wrap64 (x12_23 - x10_23)) + 1)), .int .i64 0, .int .i64 0, .int .i64 (-1), .slice Ao78 x157007_4.length co78] (0, 0) _ rfl (by (with_reducible repeat (first | refine blk_drewN ?_ _ | refine blk_drew ?_ | refine blk_alloc ?_ _)); refine blk_put (cs := #[.int .i64 x9_23, .int .i64 x10_23, .int .i64 (wrap64 ((wrap64 (x11_23 - x9_23)) + 1)), .int .i64 (wrap64 ((wrap64 (x12_23 - x10_23)) + 1)), .int .i64 0, .int .i64 0, .int .i64 (-1), .slice none 0 0]) ?_ 7 _ rfl; (with_reducible repeat (first | refine blk_drewN ?_ _ | refine blk_drew ?_ | refine blk_alloc ?_ _)); refine blk_put (cs := #[.int .i64 x9_23, .int .i64 x10_23, .int .i64 (wrap64 ((wrap64 (x11_23 - x9_23)) + 1)), .int .i64 (wrap64 ((wrap64 (x12_23 - x10_23)) + 1)), .int .i64 0, .int .i64 0, .int .i64 0, .slice none 0 0]) ?_ 6 _ rfl; (with_reducible repeat (first | refine blk_drewN ?_ _ | refine blk_drew ?_ | refine blk_alloc ?_ _)); refine blk_put (cs := #[.int .i64 x9_23, .int .i64 x10_23, .int .i64 (wrap64 ((wrap64 (x11_23 - x9_23)) + 1)), .int .i64 (wrap64 ((wrap64 (x12_23 - x10_23)) + 1)), .int .i64 0, .int .i64 0, .int .i64 0, .slice none 0 0]) ?_ 5 _ rfl; (with_reducible repeat (first | refine blk_drewN ?_ _ | refine blk_drew ?_ | refine blk_alloc ?_ _)); refine blk_put (cs := #[.int .i64 x9_23, .int .i64 x10_23, .int .i64 (wrap64 ((wrap64 (x11_23 - x9_23)) + 1)), .int .i64 (wrap64 ((wrap64 (x12_23 - x10_23)) + 1)), .int .i64 0, .int .i64 0, .int .i64 0, .slice none 0 0]) ?_ 4 _ rfl; (with_reducible repeat (first | refine blk_drewN ?_ _ | refine blk_drew ?_ | refine blk_alloc ?_ _)); refine blk_put (cs := #[.int .i64 x9_23, .int .i64 x10_23, .int .i64 (wrap64 ((wrap64 (x11_23 - x9_23)) + 1)), .int .i64 0, .int .i64 0, .int .i64 0, .int .i64 0, .slice none 0 0]) ?_ 3 _ rfl; (with_reducible repeat (first | refine blk_drewN ?_ _ | refine blk_drew ?_ | refine blk_alloc ?_ _)); refine blk_put (cs := #[.int .i64 x9_23, .int .i64 x10_23, .int .i64 0, .int .i64 0, .int .i64 0, .int .i64 0, .int .i64 0, .slice none 0 0]) ?_ 2 _ rfl; (with_reducible repeat (first | refine blk_drewN ?_ _ | refine blk_drew ?_ | refine blk_alloc ?_ _)); refine blk_put (cs := #[.int .i64 x9_23, .int .i64 0, .int .i64 0, .int .i64 0, .int .i64 0, .int .i64 0, .int .i64 0, .slice none 0 0]) ?_ 1 _ rfl; (with_reducible repeat (first | refine blk_drewN ?_ _ | refine blk_drew ?_ | refine blk_alloc ?_ _)); refine blk_put (cs := #[.int .i64 0, .int .i64 0, .int .i64 0, .int .i64 0, .int .i64 0, .int .i64 0, .int .i64 0, .slice none 0 0]) ?_ 0 _ rfl; (with_reducible repeat (first | refine blk_drewN ?_ _ | refine blk_drew ?_ | refine blk_alloc ?_ _)); exact BK150.out) Try.underlying50 rfl (by kernel_rfl)) rfl ?_
                    exact ⟨_, by first | rfl | (simp [errW_none, errW_some] <;> rfl) | (simp [*, errW_none, errW_some] <;> rfl), by (with_reducible repeat (first | apply Kd.R_alloc | apply Kd.R_drewN | apply Kd.R_drew)); exact Kd.R_mono (Kd.R_far (p := ⟨gb150, 7, none⟩) (Kd.R_far (p := ⟨gb150, 6, none⟩) (Kd.R_far (p := ⟨gb150, 5, none⟩) (Kd.R_far (p := ⟨gb150, 4, none⟩) (Kd.R_far (p := ⟨gb150, 3, none⟩) (Kd.R_far (p := ⟨gb150, 2, none⟩) (Kd.R_far (p := ⟨gb150, 1, none⟩) (Kd.R_far (p := ⟨gb150, 0, none⟩) (Kd.R_types HO_157007.out BK150.out (by decide)) (fun _ hk => hk.2) (.int .i64 x9_23)) (fun _ hk => hk.2) (.int .i64 x10_23)) (fun _ hk => hk.2) (.int .i64 (wrap64 ((wrap64 (x11_23 - x9_23)) + 1)))) (fun _ hk => hk.2) (.int .i64 (wrap64 ((wrap64 (x12_23 - x10_23)) + 1)))) (fun _ hk => hk.2) (.int .i64 0)) (fun _ hk => hk.2) (.int .i64 0)) (fun _ hk => hk.2) (.int .i64 (-1))) (fun _ hk => hk.2) (.slice Ao78 x157007_4.length co78)) (fun _ hk => trivial), by repeat (first | (with_reducible first | exact HB.out | apply below_alloc | apply pw_below_drewN | apply below_drew1 | refine below_set ?_ GE150.out | refine below_set ?_ GE156.out) | exact HB.out)⟩
                  subst c50
                  have H1 : (impl_Between.l3 k4 x15_4 0 x9_23 x10_23 (wrap64 ((wrap64 (x11_23 - x9_23)) + 1)) (wrap64 ((wrap64 (x12_23 - x10_23)) + 1)) 0 0 (-1) x157007_4) = some (r1, r2, r3, r4, r5, r6, r7, r8) := by rw [if_pos rfl] at H; exact H
                  clear H
                  have H := H1
                  clear H1
                  have HC51 := Aside0.mk H
                  clear H
                  have p165 : 0 ≤ (0 : Int) := (by omega)
                  have q165 : 0 < (x15_4.length : Int) := (by have e_ := (Kd.R_reads' HO_15.out).1; omega)
                  obtain ⟨ad165, e165, hx165_0⟩ := Kd.at_bool (Kd.R_reads' HO_15.out).2.2 0 p165 q165
                  (try rw [← Nbq49.out] at hx165_0)
                  obtain rfl : (⟨go_y157, 0, none⟩ : Addr) = ad165 := (by injection e165)
                  (first | simp only [add_plain] at hx165_0 | simp only [add_at] at hx165_0 | simp only [Addr.add, Nat.zero_add] at hx165_0 | skip)
                  have qi165 : (0 < x15_4.length) = True := eq_true (by omega)
                  (try rw [show ((0 : Int)).toNat = 0 from rfl] at hx165_0)
                  (try rw [Addr.add_zero'] at hx165_0)
                  replace p165 := eq_true p165
                  replace q165 := eq_true q165
                  go_upto_block 6 with (fail)
                  repeat (go_quiet (fail); go_upto_block 6 with (fail))
                  go_cut [] (fun wc => ∃ (kq : Nat) (x157006_50 : Int), Aside0 (impl_Between.j6 kq x9_23 x10_23 (wrap64 ((wrap64 (x11_23 - x9_23)) + 1)) (wrap64 ((wrap64 (x12_23 - x10_23)) + 1)) 0 0 x157006_50 x157007_4 = some (r1, r2, r3, r4, r5, r6, r7, r8)) ∧ Aside0 (kq ≤ k4) ∧ Aside0 (Kd.R (Kd.int .i64) 3 wc w.heap.size (fun _ => True) u157007 x157007_4) ∧ Aside0 (wc.heap[gb150]? = some (.cells #[.int .i64 0, .int .i64 0, .int .i64 0, .int .i64 0, .int .i64 0, .int .i64 0, .int .i64 0, (.slice none 0 0)] 50 (0, 0))) ∧ Aside0 (wc.heap[gb156]? = some (.cells #[.int .i64 x9_23, .int .i64 x10_23, .int .i64 (wrap64 ((wrap64 (x11_23 - x9_23)) + 1)), .int .i64 (wrap64 ((wrap64 (x12_23 - x10_23)) + 1)), .int .i64 0, .int .i64 0, .int .i64 x157006_50, u157007] 50 (0, 0))) ∧ Aside0 (Below w.heap.size w wc))
                  case first =>
                    have H := HC51.out
                    clear HC51
                    have H' := Aside0.mk H
                    clear H
                    go_wp2
                    repeat (go_quiet (fail); try go_wp2)
                    go_loopg [124] k4 (fun kq v124 w' => ∃ (x124_5 : Int) (x157006_5 : Int), v124 = .int .i64 x124_5 ∧ Aside0 (impl_Between.l3 kq x15_4 x124_5 x9_23 x10_23 (wrap64 ((wrap64 (x11_23 - x9_23)) + 1)) (wrap64 ((wrap64 (x12_23 - x10_23)) + 1)) 0 0 x157006_5 x157007_4 = some (r1, r2, r3, r4, r5, r6, r7, r8)) ∧ Aside0 (kq ≤ k4) ∧ Aside0 (Kd.R Kd.bool 137 w' w.heap.size (fun _ => True) (.slice (some ⟨go_y157, 0, none⟩) 257 257) x15_4) ∧ Aside0 (Kd.R (Kd.int .i64) 3 w' w.heap.size (fun _ => True) u157007 x157007_4) ∧ Aside0 (w'.heap[gb150]? = some (.cells #[.int .i64 0, .int .i64 0, .int .i64 0, .int .i64 0, .int .i64 0, .int .i64 0, .int .i64 0, (.slice none 0 0)] 50 (0, 0))) ∧ Aside0 (w'.heap[gb156]? = some (.cells #[.int .i64 x9_23, .int .i64 x10_23, .int .i64 (wrap64 ((wrap64 (x11_23 - x9_23)) + 1)), .int .i64 (wrap64 ((wrap64 (x12_23 - x10_23)) + 1)), .int .i64 0, .int .i64 0, .int .i64 x157006_5, u157007] 50 (0, 0))) ∧ Aside0 (Below w.heap.size w w'))
                    case atStart => exact ⟨(0), ((-1)), (by first | rfl | (simp; done) | (simp [*]; done)), H', ⟨Nat.le_refl _⟩, ⟨by (with_reducible repeat (first | apply Kd.R_alloc | apply Kd.R_drewN | apply Kd.R_drew)); exact HO_15.out⟩, ⟨by (with_reducible repeat (first | apply Kd.R_alloc | apply Kd.R_drewN | apply Kd.R_drew)); exact HO_157007.out⟩, ⟨by (with_reducible repeat (first | refine blk_drewN ?_ _ | refine blk_drew ?_ | refine blk_alloc ?_ _)); exact BK150.out⟩, ⟨by (with_reducible repeat (first | refine blk_drewN ?_ _ | refine blk_drew ?_ | refine blk_alloc ?_ _)); exact BK156.out⟩, ⟨by repeat (first | (with_reducible first | exact HB.out | apply below_alloc | apply pw_below_drewN | apply below_drew1 | refine below_set ?_ GE150.out | refine below_set ?_ GE156.out) | exact HB.out)⟩⟩
                    case round =>
                      clear H'
                      try clear c1
                      try clear p1
                      try clear q1
                      try clear hx1
                      try clear qi1
                      try clear c2
                      try clear p2
                      try clear c3
                      try clear c4
                      try clear p4
                      try clear q4
                      try clear hx4
                      try clear hf4
                      try clear c5
                      try clear p6
                      try clear c8
                      try clear c10
                      try clear c12
                      try clear c14
                      try clear c14b0
                      try clear c15
                      try clear c15b0
                      try clear p15
                      try clear q15
                      try clear hx15
                      try clear c16
                      try clear c16b0
                      try clear p16
                      try clear q16
                      try clear hx16
                      try clear qi16
                      try clear c17
                      try clear c17b0
                      try clear c18
                      try clear c18b0
                      try clear c18b1
                      try clear c19
                      try clear c19b0
                      try clear c19b1
                      try clear c25
                      try clear c25b0
                      try clear c27
                      try clear c31
                      try clear c31b0
                      try clear c32
                      try clear c32b0
                      try clear c34
                      try clear c34b0
                      try clear c35
                      try clear c35b0
                      try clear c36
                      try clear c38
                      try clear c38b0
                      try clear c39
                      try clear c39b0
                      try clear p40
                      try clear q40
                      try clear hx40
                      try clear hf40
                      try clear c41
                      try clear q49
                      try clear c50
                      try clear hcz13_0
                      try clear hcz13_1
                      try clear hcz13_2
                      try clear hcz13_3
                      try clear hcz13_4
                      try clear hcz13_5
                      try clear hcz13_6
                      try clear hcz13_7
                      try clear hcz28_0
                      try clear hcz28_1
                      try clear hcz28_2
                      try clear hcz28_3
                      try clear hcz28_4
                      try clear hcz28_5
                      try clear hcz28_6
                      try clear hcz28_7
                      try clear hcz42_0
                      try clear hcz42_1
                      try clear hcz42_2
                      try clear hcz42_3
                      try clear hcz42_4
                      try clear hcz42_5
                      try clear hcz42_6
                      try clear hcz42_7
                      try clear hcz45_0
                      try clear hcz45_1
                      try clear hcz45_2
                      try clear hcz45_3
                      try clear hcz45_4
                      try clear hcz45_5
                      try clear hcz45_6
                      try clear hcz45_7
                      try clear hfz13_0
                      try clear hfz13_1
                      try clear hfz13_2
                      try clear hfz13_3
                      try clear hfz13_4
                      try clear hfz13_5
                      try clear hfz13_6
                      try clear hfz13_7
                      try clear hfz28_0
                      try clear hfz28_1
                      try clear hfz28_2
                      try clear hfz28_3
                      try clear hfz28_4
                      try clear hfz28_5
                      try clear hfz28_6
                      try clear hfz28_7
                      try clear hfz42_0
                      try clear hfz42_1
                      try clear hfz42_2
                      try clear hfz42_3
                      try clear hfz42_4
                      try clear hfz42_5
                      try clear hfz42_6
                      try clear hfz42_7
                      try clear hfz45_0
                      try clear hfz45_1
                      try clear hfz45_2
                      try clear hfz45_3
                      try clear hfz45_4
                      try clear hfz45_5
                      try clear hfz45_6
                      try clear hfz45_7
                      try clear hx154_0
                      try clear hx155_0
                      try clear hx160_0
                      try clear hx165_0
                      try clear hx40_0
                      try clear p1
                      try clear p15
                      try clear p154
                      try clear p155
                      try clear p160
                      try clear p165
                      try clear p2
                      try clear p40
                      try clear p6
                      try clear q1
                      try clear q15
                      try clear q154
                      try clear q155
                      try clear q160
                      try clear q165
                      try clear q40
                      obtain ⟨x124_5, x157006_5, rfl, HA, HK5, HO_15, HO_157007, BK150, BK156, HB⟩ := hrel
                      cases gk with
                      | zero => exact absurd HA.out (by simp [impl_Between.l3])
                      | succ k5 =>
                        have H := HA.out
                        clear HA
                        simp only [impl_Between.l3] at H
                        by_cases c52 : x124_5 < 256
                        rotate_left
                        · rw [if_neg c52] at H
                          have c52b0 : decide (x124_5 < 256) = false := decide_eq_false c52
                          clear c52
                          (first | rw [c52b0] | (simp only [i64_w, i32_w]; rw [c52b0]) | skip)
                          have H' := Aside0.mk H
                          clear H
                          go_wp2
                          repeat (go_quiet (fail); try go_wp2)
                          go_meet
                          case rel => exact ⟨_, (x157006_5), H', ⟨by have := HJ4.out; have := HK2.out; have := HJ23.out; have := HK4.out; have := HK5.out; first | omega | exact Nat.le_refl _⟩, ⟨by (with_reducible repeat (first | apply Kd.R_alloc | apply Kd.R_drewN | apply Kd.R_drew)); exact HO_157007.out⟩, ⟨by (with_reducible repeat (first | refine blk_drewN ?_ _ | refine blk_drew ?_ | refine blk_alloc ?_ _)); exact BK150.out⟩, ⟨by (with_reducible repeat (first | refine blk_drewN ?_ _ | refine blk_drew ?_ | refine blk_alloc ?_ _)); exact BK156.out⟩, ⟨by repeat (first | (with_reducible first | exact HB.out | apply below_alloc | apply pw_below_drewN | apply below_drew1 | refine below_set ?_ GE150.out | refine below_set ?_ GE156.out) | exact HB.out)⟩⟩
                        rw [if_pos c52] at H
                        have c52b0 : decide (x124_5 < 256) = true := decide_eq_true c52
                        clear c52
                        (first | rw [c52b0] | (simp only [i64_w, i32_w]; rw [c52b0]) | skip)
                        obtain ⟨ji53, hji53⟩ : ∃ j_ : Int, (wrap64 (x124_5 + 1)) = j_ := ⟨_, rfl⟩
                        replace H : (if 0 ≤ (ji53) then (if (ji53) < 257 then (if (rdOf false x15_4 (ji53) = true) then (impl_Between.l3 k5 x15_4 ji53 x9_23 x10_23 (wrap64 ((wrap64 (x11_23 - x9_23)) + 1)) (wrap64 ((wrap64 (x12_23 - x10_23)) + 1)) 0 0 x157006_5 x157007_4) else (impl_Between.j6 k5 x9_23 x10_23 (wrap64 ((wrap64 (x11_23 - x9_23)) + 1)) (wrap64 ((wrap64 (x12_23 - x10_23)) + 1)) 0 0 x124_5 x157007_4)) else (none)) else (none)) = some (r1, r2, r3, r4, r5, r6, r7, r8) := by first | (rw [hji53] at H; exact H) | (simp only [hji53] at H ⊢; exact H)
                        have hji53w : (IntKind.i64.wrap (x124_5 + 1)) = ji53 := (i64_w _).trans hji53
                        by_cases c54 : 0 ≤ (ji53)
                        rotate_left
                        · rw [if_neg c54] at H
                          exact absurd H (by simp)
                        rw [if_pos c54] at H
                        have c54b0 : decide (0 ≤ (ji53)) = true := decide_eq_true c54
                        clear c54
                        by_cases c55 : (ji53) < 257
                        rotate_left
                        · rw [if_neg c55] at H
                          exact absurd H (by simp)
                        rw [if_pos c55] at H
                        have c55b0 : decide ((ji53) < 257) = true := decide_eq_true c55
                        clear c55
                        obtain ⟨bq56, hbq56⟩ : ∃ b_ : Bool, b_ = (rdOf false x15_4 (ji53)) := ⟨_, rfl⟩
                        replace H : (if (bq56 = true) then (impl_Between.l3 k5 x15_4 ji53 x9_23 x10_23 (wrap64 ((wrap64 (x11_23 - x9_23)) + 1)) (wrap64 ((wrap64 (x12_23 - x10_23)) + 1)) 0 0 x157006_5 x157007_4) else (impl_Between.j6 k5 x9_23 x10_23 (wrap64 ((wrap64 (x11_23 - x9_23)) + 1)) (wrap64 ((wrap64 (x12_23 - x10_23)) + 1)) 0 0 x124_5 x157007_4)) = some (r1, r2, r3, r4, r5, r6, r7, r8) := by rw [← hbq56] at H; exact H
                        have Nbq56 := Aside0.mk hbq56
                        clear hbq56
                        by_cases c57 : (bq56 = true)
                        · subst c57
                          have H1 : (impl_Between.l3 k5 x15_4 ji53 x9_23 x10_23 (wrap64 ((wrap64 (x11_23 - x9_23)) + 1)) (wrap64 ((wrap64 (x12_23 - x10_23)) + 1)) 0 0 x157006_5 x157007_4) = some (r1, r2, r3, r4, r5, r6, r7, r8) := by rw [if_pos rfl] at H; exact H
                          clear H
                          have H := H1
                          clear H1
                          have H' := Aside0.mk H
                          clear H
                          have p166 : 0 ≤ ((ji53) : Int) := of_decide_eq_true (by first | (with_reducible assumption) | assumption)
                          have qz166 : (((ji53) : Int) < (257 : Int)) = True := eq_true (of_decide_eq_true (by first | (with_reducible assumption) | assumption)); have q166 : (ji53) < (x15_4.length : Int) := (by have e_ := (Kd.R_reads' HO_15.out).1; have h_ : ((ji53) : Int) < (257 : Int) := of_decide_eq_true (by first | (with_reducible assumption) | assumption); omega)
                          obtain ⟨ad166, e166, hx166_0⟩ := Kd.at_bool (Kd.R_reads' HO_15.out).2.2 (ji53) p166 q166
                          (try rw [← Nbq49.out] at hx166_0)
                          (try rw [← Nbq56.out] at hx166_0)
                          obtain rfl : (⟨go_y157, 0, none⟩ : Addr) = ad166 := (by injection e166)
                          (first | simp only [add_plain] at hx166_0 | simp only [add_at] at hx166_0 | simp only [Addr.add, Nat.zero_add] at hx166_0 | skip)
                          replace p166 := eq_true p166
                          replace q166 := eq_true q166
                          go_wp2
                          repeat (go_quiet (fail); try go_wp2)
                          go_roundg k5
                          case measure => have := HJ4.out; have := HK2.out; have := HJ23.out; have := HK4.out; have := HK5.out; omega
                          case rel => exact ⟨(ji53), (x157006_5), (by first | rfl | (simp; done) | (simp only [← hji53] <;> (first | rfl | simp)) | (simp [*]; done)), H', ⟨by have := HJ4.out; have := HK2.out; have := HJ23.out; have := HK4.out; have := HK5.out; omega⟩, ⟨by (with_reducible repeat (first | apply Kd.R_alloc | apply Kd.R_drewN | apply Kd.R_drew)); exact HO_15.out⟩, ⟨by (with_reducible repeat (first | apply Kd.R_alloc | apply Kd.R_drewN | apply Kd.R_drew)); exact HO_157007.out⟩, ⟨by (with_reducible repeat (first | refine blk_drewN ?_ _ | refine blk_drew ?_ | refine blk_alloc ?_ _)); exact BK150.out⟩, ⟨by (with_reducible repeat (first | refine blk_drewN ?_ _ | refine blk_drew ?_ | refine blk_alloc ?_ _)); exact BK156.out⟩, ⟨by repeat (first | (with_reducible first | exact HB.out | apply below_alloc | apply pw_below_drewN | apply below_drew1 | refine below_set ?_ GE150.out | refine below_set ?_ GE156.out) | exact HB.out)⟩⟩
                        replace c57 := Bool.eq_false_iff.mpr c57
                        subst c57
                        have H1 : (impl_Between.j6 k5 x9_23 x10_23 (wrap64 ((wrap64 (x11_23 - x9_23)) + 1)) (wrap64 ((wrap64 (x12_23 - x10_23)) + 1)) 0 0 x124_5 x157007_4) = some (r1, r2, r3, r4, r5, r6, r7, r8) := by rw [if_neg (show ¬ (false = true) by decide)] at H; exact H
                        clear H
                        have H := H1
                        clear H1
                        have H' := Aside0.mk H
                        clear H
                        have p166 : 0 ≤ ((ji53) : Int) := of_decide_eq_true (by first | (with_reducible assumption) | assumption)
                        have qz166 : (((ji53) : Int) < (257 : Int)) = True := eq_true (of_decide_eq_true (by first | (with_reducible assumption) | assumption)); have q166 : (ji53) < (x15_4.length : Int) := (by have e_ := (Kd.R_reads' HO_15.out).1; have h_ : ((ji53) : Int) < (257 : Int) := of_decide_eq_true (by first | (with_reducible assumption) | assumption); omega)
                        obtain ⟨ad166, e166, hx166_0⟩ := Kd.at_bool (Kd.R_reads' HO_15.out).2.2 (ji53) p166 q166
                        (try rw [← Nbq49.out] at hx166_0)
                        (try rw [← Nbq56.out] at hx166_0)
                        obtain rfl : (⟨go_y157, 0, none⟩ : Addr) = ad166 := (by injection e166)
                        (first | simp only [add_plain] at hx166_0 | simp only [add_at] at hx166_0 | simp only [Addr.add, Nat.zero_add] at hx166_0 | skip)
                        replace p166 := eq_true p166
                        replace q166 := eq_true q166
                        have hnb58 := NB156_150.out
                        have hnc58 := NB150_156.out
                        have hcz59_0 : wr.cell? ⟨gb156, 0, none⟩ = some (.int .i64 x9_23) := (blk_cell BK156.out 0).trans rfl
                        have hcz59_1 : wr.cell? ⟨gb156, 1, none⟩ = some (.int .i64 x10_23) := (blk_cell BK156.out 1).trans rfl
                        have hcz59_2 : wr.cell? ⟨gb156, 2, none⟩ = some (.int .i64 (wrap64 ((wrap64 (x11_23 - x9_23)) + 1))) := (blk_cell BK156.out 2).trans rfl
                        have hcz59_3 : wr.cell? ⟨gb156, 3, none⟩ = some (.int .i64 (wrap64 ((wrap64 (x12_23 - x10_23)) + 1))) := (blk_cell BK156.out 3).trans rfl
                        have hcz59_4 : wr.cell? ⟨gb156, 4, none⟩ = some (.int .i64 0) := (blk_cell BK156.out 4).trans rfl
                        have hcz59_5 : wr.cell? ⟨gb156, 5, none⟩ = some (.int .i64 0) := (blk_cell BK156.out 5).trans rfl
                        have hcz59_6 : wr.cell? ⟨gb156, 6, none⟩ = some (.int .i64 x157006_5) := (blk_cell BK156.out 6).trans rfl
                        have hcz59_7 : wr.cell? ⟨gb156, 7, none⟩ = some (u157007) := (blk_cell BK156.out 7).trans rfl
                        have hfz59_0 := blk_frozen BK156.out 0
                        have hfz59_1 := blk_frozen BK156.out 1
                        have hfz59_2 := blk_frozen BK156.out 2
                        have hfz59_3 := blk_frozen BK156.out 3
                        have hfz59_4 := blk_frozen BK156.out 4
                        have hfz59_5 := blk_frozen BK156.out 5
                        have hfz59_6 := blk_frozen BK156.out 6
                        have hfz59_7 := blk_frozen BK156.out 7
                        go_wp2
                        repeat (go_quiet (fail); try go_wp2)
                        go_meet
                        case rel => exact ⟨_, (x124_5), H', ⟨by have := HJ4.out; have := HK2.out; have := HJ23.out; have := HK4.out; have := HK5.out; first | omega | exact Nat.le_refl _⟩, ⟨by (with_reducible repeat (first | apply Kd.R_alloc | apply Kd.R_drewN | apply Kd.R_drew)); exact Kd.R_mono (Kd.R_far (p := ⟨gb156, 6, none⟩) (Kd.R_types HO_157007.out BK156.out (by decide)) (fun _ hk => hk.2) (.int .i64 x124_5)) (fun _ hk => trivial)⟩, ⟨by (with_reducible repeat (first | refine blk_drewN ?_ _ | refine blk_drew ?_ | refine blk_alloc ?_ _)); refine blk_far ?_ NB150_156.out _; (with_reducible repeat (first | refine blk_drewN ?_ _ | refine blk_drew ?_ | refine blk_alloc ?_ _)); exact BK150.out⟩, ⟨by (with_reducible repeat (first | refine blk_drewN ?_ _ | refine blk_drew ?_ | refine blk_alloc ?_ _)); refine blk_put (cs := #[.int .i64 x9_23, .int .i64 x10_23, .int .i64 (wrap64 ((wrap64 (x11_23 - x9_23)) + 1)), .int .i64 (wrap64 ((wrap64 (x12_23 - x10_23)) + 1)), .int .i64 0, .int .i64 0, .int .i64 x157006_5, u157007]) ?_ 6 _ rfl; (with_reducible repeat (first | refine blk_drewN ?_ _ | refine blk_drew ?_ | refine blk_alloc ?_ _)); exact BK156.out⟩, ⟨by repeat (first | (with_reducible first | exact HB.out | apply below_alloc | apply pw_below_drewN | apply below_drew1 | refine below_set ?_ GE150.out | refine below_set ?_ GE156.out) | exact HB.out)⟩⟩
                  case rest =>
                    clear HC51
                    try clear c1
                    try clear p1
                    try clear q1
                    try clear hx1
                    try clear qi1
                    try clear c2
                    try clear p2
                    try clear c3
                    try clear c4
                    try clear p4
                    try clear q4
                    try clear hx4
                    try clear hf4
                    try clear c5
                    try clear q5
                    try clear p6
                    try clear c8
                    try clear c10
                    try clear c12
                    try clear c14
                    try clear c14b0
                    try clear c15
                    try clear c15b0
                    try clear p15
                    try clear q15
                    try clear hx15
                    try clear c16
                    try clear c16b0
                    try clear p16
                    try clear q16
                    try clear hx16
                    try clear qi16
                    try clear c17
                    try clear c17b0
                    try clear c18
                    try clear c18b0
                    try clear c18b1
                    try clear c19
                    try clear c19b0
                    try clear c19b1
                    try clear c25
                    try clear c25b0
                    try clear c27
                    try clear c31
                    try clear c31b0
                    try clear c32
                    try clear c32b0
                    try clear c34
                    try clear c34b0
                    try clear c35
                    try clear c35b0
                    try clear c36
                    try clear c38
                    try clear c38b0
                    try clear c39
                    try clear c39b0
                    try clear p40
                    try clear q40
                    try clear hx40
                    try clear hf40
                    try clear c41
                    try clear q49
                    try clear c50
                    try clear c52
                    try clear c52b0
                    try clear c54
                    try clear c54b0
                    try clear c55
                    try clear c55b0
                    try clear q56
                    try clear c57
                    try clear c58
                    try clear hcz13_0
                    try clear hcz13_1
                    try clear hcz13_2
                    try clear hcz13_3
                    try clear hcz13_4
                    try clear hcz13_5
                    try clear hcz13_6
                    try clear hcz13_7
                    try clear hcz28_0
                    try clear hcz28_1
                    try clear hcz28_2
                    try clear hcz28_3
                    try clear hcz28_4
                    try clear hcz28_5
                    try clear hcz28_6
                    try clear hcz28_7
                    try clear hcz42_0
                    try clear hcz42_1
                    try clear hcz42_2
                    try clear hcz42_3
                    try clear hcz42_4
                    try clear hcz42_5
                    try clear hcz42_6
                    try clear hcz42_7
                    try clear hcz45_0
                    try clear hcz45_1
                    try clear hcz45_2
                    try clear hcz45_3
                    try clear hcz45_4
                    try clear hcz45_5
                    try clear hcz45_6
                    try clear hcz45_7
                    try clear hcz59_0
                    try clear hcz59_1
                    try clear hcz59_2
                    try clear hcz59_3
                    try clear hcz59_4
                    try clear hcz59_5
                    try clear hcz59_6
                    try clear hcz59_7
                    try clear hfz13_0
                    try clear hfz13_1
                    try clear hfz13_2
                    try clear hfz13_3
                    try clear hfz13_4
                    try clear hfz13_5
                    try clear hfz13_6
                    try clear hfz13_7
                    try clear hfz28_0
                    try clear hfz28_1
                    try clear hfz28_2
                    try clear hfz28_3
                    try clear hfz28_4
                    try clear hfz28_5
                    try clear hfz28_6
                    try clear hfz28_7
                    try clear hfz42_0
                    try clear hfz42_1
                    try clear hfz42_2
                    try clear hfz42_3
                    try clear hfz42_4
                    try clear hfz42_5
                    try clear hfz42_6
                    try clear hfz42_7
                    try clear hfz45_0
                    try clear hfz45_1
                    try clear hfz45_2
                    try clear hfz45_3
                    try clear hfz45_4
                    try clear hfz45_5
                    try clear hfz45_6
                    try clear hfz45_7
                    try clear hfz59_0
                    try clear hfz59_1
                    try clear hfz59_2
                    try clear hfz59_3
                    try clear hfz59_4
                    try clear hfz59_5
                    try clear hfz59_6
                    try clear hfz59_7
                    try clear hx154_0
                    try clear hx155_0
                    try clear hx160_0
                    try clear hx165_0
                    try clear hx166_0
                    try clear hx40_0
                    try clear p1
                    try clear p15
                    try clear p154
                    try clear p155
                    try clear p16
                    try clear p160
                    try clear p165
                    try clear p166
                    try clear p2
                    try clear p4
                    try clear p40
                    try clear p6
                    try clear q1
                    try clear q15
                    try clear q154
                    try clear q155
                    try clear q16
                    try clear q160
                    try clear q165
                    try clear q166
                    try clear q4
                    try clear q40
                    try clear q49
                    obtain ⟨kq, x157006_50, HA, HJ50, HO_157007, BK150, BK156, HB⟩ := hcut
                    cases kq with
                    | zero => exact absurd HA.out (by simp [impl_Between.j6])
                    | succ kj50 =>
                      have H := HA.out
                      clear HA
                      simp only [impl_Between.j6] at H
                      have H' := Aside0.mk H
                      clear H
                      have hnb60 := NB156_150.out
                      have hnc60 := NB150_156.out
                      have hcz61_0 : wc.cell? ⟨gb156, 0, none⟩ = some (.int .i64 x9_23) := (blk_cell BK156.out 0).trans rfl
                      have hcz61_1 : wc.cell? ⟨gb156, 1, none⟩ = some (.int .i64 x10_23) := (blk_cell BK156.out 1).trans rfl
                      have hcz61_2 : wc.cell? ⟨gb156, 2, none⟩ = some (.int .i64 (wrap64 ((wrap64 (x11_23 - x9_23)) + 1))) := (blk_cell BK156.out 2).trans rfl
                      have hcz61_3 : wc.cell? ⟨gb156, 3, none⟩ = some (.int .i64 (wrap64 ((wrap64 (x12_23 - x10_23)) + 1))) := (blk_cell BK156.out 3).trans rfl
                      have hcz61_4 : wc.cell? ⟨gb156, 4, none⟩ = some (.int .i64 0) := (blk_cell BK156.out 4).trans rfl
                      have hcz61_5 : wc.cell? ⟨gb156, 5, none⟩ = some (.int .i64 0) := (blk_cell BK156.out 5).trans rfl
                      have hcz61_6 : wc.cell? ⟨gb156, 6, none⟩ = some (.int .i64 x157006_50) := (blk_cell BK156.out 6).trans rfl
                      have hcz61_7 : wc.cell? ⟨gb156, 7, none⟩ = some (u157007) := (blk_cell BK156.out 7).trans rfl
                      have hfz61_0 := blk_frozen BK156.out 0
                      have hfz61_1 := blk_frozen BK156.out 1
                      have hfz61_2 := blk_frozen BK156.out 2
                      have hfz61_3 := blk_frozen BK156.out 3
                      have hfz61_4 := blk_frozen BK156.out 4
                      have hfz61_5 := blk_frozen BK156.out 5
                      have hfz61_6 := blk_frozen BK156.out 6
                      have hfz61_7 := blk_frozen BK156.out 7
                      obtain ⟨Ao62, co62, eo62⟩ := Kd.R_slice HO_157007.out
                      subst eo62
                      go_wp2
                      repeat (go_quiet (fail); try go_wp2)
                      go_loopg [138] kj50 (fun kq v138 w' => ∃ (x138_6 : Int) (x157007_6 : List Int), v138 = .int .i64 x138_6 ∧ Aside0 (impl_Between.l4 kq (x157007_4.length : Int) x138_6 x9_23 x10_23 (wrap64 ((wrap64 (x11_23 - x9_23)) + 1)) (wrap64 ((wrap64 (x12_23 - x10_23)) + 1)) 0 0 x157006_50 x157007_6 = some (r1, r2, r3, r4, r5, r6, r7, r8)) ∧ Aside0 (kq ≤ kj50) ∧ Aside0 (Kd.R (Kd.int .i64) 3 w' w.heap.size (fun _ => True) (.slice Ao62 x157007_4.length co62) x157007_6) ∧ Aside0 (w'.heap[gb150]? = some (.cells #[.int .i64 0, .int .i64 0, .int .i64 0, .int .i64 0, .int .i64 0, .int .i64 0, .int .i64 0, (.slice none 0 0)] 50 (0, 0))) ∧ Aside0 (w'.heap[gb156]? = some (.cells #[.int .i64 x9_23, .int .i64 x10_23, .int .i64 (wrap64 ((wrap64 (x11_23 - x9_23)) + 1)), .int .i64 (wrap64 ((wrap64 (x12_23 - x10_23)) + 1)), .int .i64 0, .int .i64 0, .int .i64 x157006_50, (.slice Ao62 x157007_4.length co62)] 50 (0, 0))) ∧ Aside0 (Below w.heap.size w w'))
                      case atStart => exact ⟨(0), (x157007_4), (by first | rfl | (simp; done) | (simp [*]; done)), H', ⟨Nat.le_refl _⟩, ⟨by (with_reducible repeat (first | apply Kd.R_alloc | apply Kd.R_drewN | apply Kd.R_drew)); exact HO_157007.out⟩, ⟨by (with_reducible repeat (first | refine blk_drewN ?_ _ | refine blk_drew ?_ | refine blk_alloc ?_ _)); exact BK150.out⟩, ⟨by (with_reducible repeat (first | refine blk_drewN ?_ _ | refine blk_drew ?_ | refine blk_alloc ?_ _)); exact BK156.out⟩, ⟨by repeat (first | (with_reducible first | exact HB.out | apply below_alloc | apply pw_below_drewN | apply below_drew1 | refine below_set ?_ GE150.out | refine below_set ?_ GE156.out) | exact HB.out)⟩⟩
                      case round =>
                        clear H'
                        try clear c1
                        try clear p1
                        try clear q1
                        try clear hx1
                        try clear qi1
                        try clear c2
                        try clear p2
                        try clear c3
                        try clear c4
                        try clear p4
                        try clear q4
                        try clear hx4
                        try clear hf4
                        try clear c5
                        try clear q5
                        try clear c6
                        try clear p6
                        try clear c8
                        try clear c10
                        try clear c12
                        try clear c14
                        try clear c14b0
                        try clear c15
                        try clear c15b0
                        try clear p15
                        try clear q15
                        try clear hx15
                        try clear c16
                        try clear c16b0
                        try clear p16
                        try clear q16
                        try clear hx16
                        try clear qi16
                        try clear c17
                        try clear c17b0
                        try clear c18
                        try clear c18b0
                        try clear c18b1
                        try clear c19
                        try clear c19b0
                        try clear c19b1
                        try clear c25
                        try clear c25b0
                        try clear c27
                        try clear c31
                        try clear c31b0
                        try clear c32
                        try clear c32b0
                        try clear c34
                        try clear c34b0
                        try clear c35
                        try clear c35b0
                        try clear c36
                        try clear c38
                        try clear c38b0
                        try clear c39
                        try clear c39b0
                        try clear p40
                        try clear q40
                        try clear hx40
                        try clear hf40
                        try clear c41
                        try clear q49
                        try clear c50
                        try clear c52
                        try clear c52b0
                        try clear c54
                        try clear c54b0
                        try clear c55
                        try clear c55b0
                        try clear q56
                        try clear c57
                        try clear c58
                        try clear c60
                        try clear hcz13_0
                        try clear hcz13_1
                        try clear hcz13_2
                        try clear hcz13_3
                        try clear hcz13_4
                        try clear hcz13_5
                        try clear hcz13_6
                        try clear hcz13_7
                        try clear hcz28_0
                        try clear hcz28_1
                        try clear hcz28_2
                        try clear hcz28_3
                        try clear hcz28_4
                        try clear hcz28_5
                        try clear hcz28_6
                        try clear hcz28_7
                        try clear hcz42_0
                        try clear hcz42_1
                        try clear hcz42_2
                        try clear hcz42_3
                        try clear hcz42_4
                        try clear hcz42_5
                        try clear hcz42_6
                        try clear hcz42_7
                        try clear hcz45_0
                        try clear hcz45_1
                        try clear hcz45_2
                        try clear hcz45_3
                        try clear hcz45_4
                        try clear hcz45_5
                        try clear hcz45_6
                        try clear hcz45_7
                        try clear hcz59_0
                        try clear hcz59_1
                        try clear hcz59_2
                        try clear hcz59_3
                        try clear hcz59_4
                        try clear hcz59_5
                        try clear hcz59_6
                        try clear hcz59_7
                        try clear hcz61_0
                        try clear hcz61_1
                        try clear hcz61_2
                        try clear hcz61_3
                        try clear hcz61_4
                        try clear hcz61_5
                        try clear hcz61_6
                        try clear hcz61_7
                        try clear hfz13_0
                        try clear hfz13_1
                        try clear hfz13_2
                        try clear hfz13_3
                        try clear hfz13_4
                        try clear hfz13_5
                        try clear hfz13_6
                        try clear hfz13_7
                        try clear hfz28_0
                        try clear hfz28_1
                        try clear hfz28_2
                        try clear hfz28_3
                        try clear hfz28_4
                        try clear hfz28_5
                        try clear hfz28_6
                        try clear hfz28_7
                        try clear hfz42_0
                        try clear hfz42_1
                        try clear hfz42_2
                        try clear hfz42_3
                        try clear hfz42_4
                        try clear hfz42_5
                        try clear hfz42_6
                        try clear hfz42_7
                        try clear hfz45_0
                        try clear hfz45_1
                        try clear hfz45_2
                        try clear hfz45_3
                        try clear hfz45_4
                        try clear hfz45_5
                        try clear hfz45_6
                        try clear hfz45_7
                        try clear hfz59_0
                        try clear hfz59_1
                        try clear hfz59_2
                        try clear hfz59_3
                        try clear hfz59_4
                        try clear hfz59_5
                        try clear hfz59_6
                        try clear hfz59_7
                        try clear hfz61_0
                        try clear hfz61_1
                        try clear hfz61_2
                        try clear hfz61_3
                        try clear hfz61_4
                        try clear hfz61_5
                        try clear hfz61_6
                        try clear hfz61_7
                        try clear hx154_0
                        try clear hx155_0
                        try clear hx160_0
                        try clear hx165_0
                        try clear hx166_0
                        try clear hx40_0
                        try clear p1
                        try clear p15
                        try clear p154
                        try clear p155
                        try clear p16
                        try clear p160
                        try clear p165
                        try clear p166
                        try clear p2
                        try clear p4
                        try clear p40
                        try clear p6
                        try clear q1
                        try clear q15
                        try clear q154
                        try clear q155
                        try clear q16
                        try clear q160
                        try clear q165
                        try clear q166
                        try clear q4
                        try clear q40
                        try clear q49
                        try clear q5
                        try clear q56
                        obtain ⟨x138_6, x157007_6, rfl, HA, HK6, HO_157007, BK150, BK156, HB⟩ := hrel
                        have hl157007_6 := (Kd.R_reads' HO_157007.out).1
                        rw [hl157007_6] at HO_157007
                        (try simp only [hl157007_6])
                        (try simp only [hl157007_6] at BK150)
                        (try simp only [hl157007_6] at BK156)
                        cases gk with
                        | zero => exact absurd HA.out (by simp [impl_Between.l4])
                        | succ k6 =>
                          have H := HA.out
                          clear HA
                          simp only [impl_Between.l4] at H
                          by_cases c63 : x138_6 < (x157007_4.length : Int)
                          rotate_left
                          · rw [if_neg c63] at H
                            have c63b0 : decide (x138_6 < (x157007_4.length : Int)) = false := decide_eq_false c63
                            (try simp only [hl157007_6] at c63b0)
                            clear c63
                            simp only [Option.some.injEq, Prod.mk.injEq] at H
                            obtain ⟨rfl, rfl, rfl, rfl, rfl, rfl, rfl, rfl⟩ := H
                            have hnb72 := NB156_150.out
                            have hnc72 := NB150_156.out
                            have hcz73_0 : wr.cell? ⟨gb156, 0, none⟩ = some (.int .i64 x9_23) := (blk_cell BK156.out 0).trans rfl
                            have hcz73_1 : wr.cell? ⟨gb156, 1, none⟩ = some (.int .i64 x10_23) := (blk_cell BK156.out 1).trans rfl
                            have hcz73_2 : wr.cell? ⟨gb156, 2, none⟩ = some (.int .i64 (wrap64 ((wrap64 (x11_23 - x9_23)) + 1))) := (blk_cell BK156.out 2).trans rfl
                            have hcz73_3 : wr.cell? ⟨gb156, 3, none⟩ = some (.int .i64 (wrap64 ((wrap64 (x12_23 - x10_23)) + 1))) := (blk_cell BK156.out 3).trans rfl
                            have hcz73_4 : wr.cell? ⟨gb156, 4, none⟩ = some (.int .i64 0) := (blk_cell BK156.out 4).trans rfl
                            have hcz73_5 : wr.cell? ⟨gb156, 5, none⟩ = some (.int .i64 0) := (blk_cell BK156.out 5).trans rfl
                            have hcz73_6 : wr.cell? ⟨gb156, 6, none⟩ = some (.int .i64 x157006_50) := (blk_cell BK156.out 6).trans rfl
                            have hcz73_7 : wr.cell? ⟨gb156, 7, none⟩ = some (.slice Ao62 x157007_6.length co62) := (blk_cell BK156.out 7).trans rfl
                            have hfz73_0 := blk_frozen BK156.out 0
                            have hfz73_1 := blk_frozen BK156.out 1
                            have hfz73_2 := blk_frozen BK156.out 2
                            have hfz73_3 := blk_frozen BK156.out 3
                            have hfz73_4 := blk_frozen BK156.out 4
                            have hfz73_5 := blk_frozen BK156.out 5
                            have hfz73_6 := blk_frozen BK156.out 6
                            have hfz73_7 := blk_frozen BK156.out 7
                            have hcz74_0 : wr.cell? ⟨gb150, 0, none⟩ = some (.int .i64 0) := (blk_cell BK150.out 0).trans rfl
                            have hcz74_1 : wr.cell? ⟨gb150, 1, none⟩ = some (.int .i64 0) := (blk_cell BK150.out 1).trans rfl
                            have hcz74_2 : wr.cell? ⟨gb150, 2, none⟩ = some (.int .i64 0) := (blk_cell BK150.out 2).trans rfl
                            have hcz74_3 : wr.cell? ⟨gb150, 3, none⟩ = some (.int .i64 0) := (blk_cell BK150.out 3).trans rfl
                            have hcz74_4 : wr.cell? ⟨gb150, 4, none⟩ = some (.int .i64 0) := (blk_cell BK150.out 4).trans rfl
                            have hcz74_5 : wr.cell? ⟨gb150, 5, none⟩ = some (.int .i64 0) := (blk_cell BK150.out 5).trans rfl
                            have hcz74_6 : wr.cell? ⟨gb150, 6, none⟩ = some (.int .i64 0) := (blk_cell BK150.out 6).trans rfl
                            have hcz74_7 : wr.cell? ⟨gb150, 7, none⟩ = some (.slice none 0 0) := (blk_cell BK150.out 7).trans rfl
                            have hfz74_0 := blk_frozen BK150.out 0
                            have hfz74_1 := blk_frozen BK150.out 1
                            have hfz74_2 := blk_frozen BK150.out 2
                            have hfz74_3 := blk_frozen BK150.out 3
                            have hfz74_4 := blk_frozen BK150.out 4
                            have hfz74_5 := blk_frozen BK150.out 5
                            have hfz74_6 := blk_frozen BK150.out 6
                            have hfz74_7 := blk_frozen BK150.out 7
                            go_wp2
                            repeat (go_quiet (fail); try go_wp2)
                            refine bodyPost_ret (results_cell_row rfl _ _ gb150 50 #[.int .i64 x9_23, .int .i64 x10_23, .int .i64 (wrap64 ((wrap64 (x11_23 - x9_23)) + 1)), .int .i64 (wrap64 ((wrap64 (x12_23 - x10_23)) + 1)), .int .i64 0, .int .i64 0, .int .i64 x157006_50, .slice Ao62 x157007_6.length co62] (0, 0) _ rfl (by (with_reducible repeat (first | refine blk_drewN ?_ _ | refine blk_drew ?_ | refine blk_alloc ?_ _)); refine blk_put (cs := #[.int .i64 x9_23, .int .i64 x10_23, .int .i64 (wrap64 ((wrap64 (x11_23 - x9_23)) + 1)), .int .i64 (wrap64 ((wrap64 (x12_23 - x10_23)) + 1)), .int .i64 0, .int .i64 0, .int .i64 x157006_50, .slice none 0 0]) ?_ 7 _ rfl; (with_reducible repeat (first | refine blk_drewN ?_ _ | refine blk_drew ?_ | refine blk_alloc ?_ _)); refine blk_put (cs := #[.int .i64 x9_23, .int .i64 x10_23, .int .i64 (wrap64 ((wrap64 (x11_23 - x9_23)) + 1)), .int .i64 (wrap64 ((wrap64 (x12_23 - x10_23)) + 1)), .int .i64 0, .int .i64 0, .int .i64 0, .slice none 0 0]) ?_ 6 _ rfl; (with_reducible repeat (first | refine blk_drewN ?_ _ | refine blk_drew ?_ | refine blk_alloc ?_ _)); refine blk_put (cs := #[.int .i64 x9_23, .int .i64 x10_23, .int .i64 (wrap64 ((wrap64 (x11_23 - x9_23)) + 1)), .int .i64 (wrap64 ((wrap64 (x12_23 - x10_23)) + 1)), .int .i64 0, .int .i64 0, .int .i64 0, .slice none 0 0]) ?_ 5 _ rfl; (with_reducible repeat (first | refine blk_drewN ?_ _ | refine blk_drew ?_ | refine blk_alloc ?_ _)); refine blk_put (cs := #[.int .i64 x9_23, .int .i64 x10_23, .int .i64 (wrap64 ((wrap64 (x11_23 - x9_23)) + 1)), .int .i64 (wrap64 ((wrap64 (x12_23 - x10_23)) + 1)), .int .i64 0, .int .i64 0, .int .i64 0, .slice none 0 0]) ?_ 4 _ rfl; (with_reducible repeat (first | refine blk_drewN ?_ _ | refine blk_drew ?_ | refine blk_alloc ?_ _)); refine blk_put (cs := #[.int .i64 x9_23, .int .i64 x10_23, .int .i64 (wrap64 ((wrap64 (x11_23 - x9_23)) + 1)), .int .i64 0, .int .i64 0, .int .i64 0, .int .i64 0, .slice none 0 0]) ?_ 3 _ rfl; (with_reducible repeat (first | refine blk_drewN ?_ _ | refine blk_drew ?_ | refine blk_alloc ?_ _)); refine blk_put (cs := #[.int .i64 x9_23, .int .i64 x10_23, .int .i64 0, .int .i64 0, .int .i64 0, .int .i64 0, .int .i64 0, .slice none 0 0]) ?_ 2 _ rfl; (with_reducible repeat (first | refine blk_drewN ?_ _ | refine blk_drew ?_ | refine blk_alloc ?_ _)); refine blk_put (cs := #[.int .i64 x9_23, .int .i64 0, .int .i64 0, .int .i64 0, .int .i64 0, .int .i64 0, .int .i64 0, .slice none 0 0]) ?_ 1 _ rfl; (with_reducible repeat (first | refine blk_drewN ?_ _ | refine blk_drew ?_ | refine blk_alloc ?_ _)); refine blk_put (cs := #[.int .i64 0, .int .i64 0, .int .i64 0, .int .i64 0, .int .i64 0, .int .i64 0, .int .i64 0, .slice none 0 0]) ?_ 0 _ rfl; (with_reducible repeat (first | refine blk_drewN ?_ _ | refine blk_drew ?_ | refine blk_alloc ?_ _)); exact BK150.out) Try.underlying50 rfl (by kernel_rfl)) rfl ?_
                            exact ⟨_, by first | rfl | (simp [errW_none, errW_some] <;> rfl) | (simp [*, errW_none, errW_some] <;> rfl), by (with_reducible repeat (first | apply Kd.R_alloc | apply Kd.R_drewN | apply Kd.R_drew)); exact Kd.R_mono (Kd.R_far (p := ⟨gb150, 7, none⟩) (Kd.R_far (p := ⟨gb150, 6, none⟩) (Kd.R_far (p := ⟨gb150, 5, none⟩) (Kd.R_far (p := ⟨gb150, 4, none⟩) (Kd.R_far (p := ⟨gb150, 3, none⟩) (Kd.R_far (p := ⟨gb150, 2, none⟩) (Kd.R_far (p := ⟨gb150, 1, none⟩) (Kd.R_far (p := ⟨gb150, 0, none⟩) (Kd.R_types HO_157007.out BK150.out (by decide)) (fun _ hk => hk.2) (.int .i64 x9_23)) (fun _ hk => hk.2) (.int .i64 x10_23)) (fun _ hk => hk.2) (.int .i64 (wrap64 ((wrap64 (x11_23 - x9_23)) + 1)))) (fun _ hk => hk.2) (.int .i64 (wrap64 ((wrap64 (x12_23 - x10_23)) + 1)))) (fun _ hk => hk.2) (.int .i64 0)) (fun _ hk => hk.2) (.int .i64 0)) (fun _ hk => hk.2) (.int .i64 x157006_50)) (fun _ hk => hk.2) (.slice Ao62 x157007_6.length co62)) (fun _ hk => trivial), by repeat (first | (with_reducible first | exact HB.out | apply below_alloc | apply pw_below_drewN | apply below_drew1 | refine below_set ?_ GE150.out | refine below_set ?_ GE156.out) | exact HB.out)⟩
                          rw [if_pos c63] at H
                          have c63b0 : decide (x138_6 < (x157007_4.length : Int)) = true := decide_eq_true c63
                          (try simp only [hl157007_6] at c63b0)
                          clear c63
                          by_cases c64 : 0 ≤ x138_6
                          rotate_left
                          · rw [if_neg c64] at H
                            exact absurd H (by simp)
                          rw [if_pos c64] at H
                          have c64b0 : decide (0 ≤ x138_6) = true := decide_eq_true c64
                          clear c64
                          by_cases c65 : x138_6 < (x157007_6.length : Int)
                          rotate_left
                          · rw [if_neg c65] at H
                            exact absurd H (by simp)
                          rw [if_pos c65] at H
                          have c65b0 : decide (x138_6 < (x157007_6.length : Int)) = true := decide_eq_true c65
                          (try simp only [hl157007_6] at c65b0)
                          clear c65
                          by_cases c66 : (rd x157007_6 x138_6) < 0
                          rotate_left
                          · rw [if_neg c66] at H
                            have c66b0 : decide ((rd x157007_6 x138_6) < 0) = false := decide_eq_false c66
                            clear c66
                            have H' := Aside0.mk H
                            clear H
                            have p167 : 0 ≤ (x138_6 : Int) := of_decide_eq_true (by first | (with_reducible assumption) | assumption)
                            have q167 : x138_6 < (x157007_6.length : Int) := of_decide_eq_true (by first | (with_reducible assumption) | assumption)
                            obtain ⟨ad167, e167, hx167_0⟩ := Kd.at_int (Kd.R_reads' HO_157007.out).2.2 x138_6 p167 q167
                            cases e167
                            replace p167 := eq_true p167
                            replace q167 := eq_true q167
                            go_wp2
                            repeat (go_quiet (fail); try go_wp2)
                            (try simp only [← hl157007_6])
                            go_roundg k6
                            case measure => have := HJ4.out; have := HK2.out; have := HJ23.out; have := HK4.out; have := HJ50.out; have := HK6.out; omega
                            case rel => exact ⟨(wrap64 (x138_6 + 1)), (x157007_6), (by first | rfl | (simp; done) | (simp [*]; done)), H', ⟨by have := HJ4.out; have := HK2.out; have := HJ23.out; have := HK4.out; have := HJ50.out; have := HK6.out; omega⟩, ⟨by (try simp only [hl157007_6]); (with_reducible repeat (first | apply Kd.R_alloc | apply Kd.R_drewN | apply Kd.R_drew)); exact HO_157007.out⟩, ⟨by (try simp only [hl157007_6]); (with_reducible repeat (first | refine blk_drewN ?_ _ | refine blk_drew ?_ | refine blk_alloc ?_ _)); exact BK150.out⟩, ⟨by (try simp only [hl157007_6]); (with_reducible repeat (first | refine blk_drewN ?_ _ | refine blk_drew ?_ | refine blk_alloc ?_ _)); exact BK156.out⟩, ⟨by repeat (first | (with_reducible first | exact HB.out | apply below_alloc | apply pw_below_drewN | apply below_drew1 | refine below_set ?_ GE150.out | refine below_set ?_ GE156.out) | exact HB.out)⟩⟩
                          rw [if_pos c66] at H
                          have c66b0 : decide ((rd x157007_6 x138_6) < 0) = true := decide_eq_true c66
                          clear c66
                          obtain ⟨y168, hy168⟩ : ∃ y_ : List Int, y_ = (x157007_6.set (x138_6 : Int).toNat x157006_50) := ⟨_, rfl⟩
                          replace H : (impl_Between.l4 k6 (x157007_4.length : Int) (wrap64 (x138_6 + 1)) x9_23 x10_23 (wrap64 ((wrap64 (x11_23 - x9_23)) + 1)) (wrap64 ((wrap64 (x12_23 - x10_23)) + 1)) 0 0 x157006_50 y168) = some (r1, r2, r3, r4, r5, r6, r7, r8) := by first | (rw [hy168]; with_reducible exact H) | (have H2_ := (Option.bind_some _ _).symm.trans H; rw [hy168]; with_reducible exact H2_) | (have H2_ := (Option.bind_some _ _).symm.trans H; with_reducible exact H2_) | with_reducible exact H | (rw [hy168]; exact H) | exact H
                          have Ny168 := Aside0.mk hy168
                          clear hy168
                          have H' := Aside0.mk H
                          clear H
                          have p167 : 0 ≤ (x138_6 : Int) := of_decide_eq_true (by first | (with_reducible assumption) | assumption)
                          have q167 : x138_6 < (x157007_6.length : Int) := of_decide_eq_true (by first | (with_reducible assumption) | assumption)
                          obtain ⟨ad167, e167, hx167_0⟩ := Kd.at_int (Kd.R_reads' HO_157007.out).2.2 x138_6 p167 q167
                          cases e167
                          replace p167 := eq_true p167
                          replace q167 := eq_true q167
                          have hnb68 := NB156_150.out
                          have hnc68 := NB150_156.out
                          have hcz69_0 : wr.cell? ⟨gb156, 0, none⟩ = some (.int .i64 x9_23) := (blk_cell BK156.out 0).trans rfl
                          have hcz69_1 : wr.cell? ⟨gb156, 1, none⟩ = some (.int .i64 x10_23) := (blk_cell BK156.out 1).trans rfl
                          have hcz69_2 : wr.cell? ⟨gb156, 2, none⟩ = some (.int .i64 (wrap64 ((wrap64 (x11_23 - x9_23)) + 1))) := (blk_cell BK156.out 2).trans rfl
                          have hcz69_3 : wr.cell? ⟨gb156, 3, none⟩ = some (.int .i64 (wrap64 ((wrap64 (x12_23 - x10_23)) + 1))) := (blk_cell BK156.out 3).trans rfl
                          have hcz69_4 : wr.cell? ⟨gb156, 4, none⟩ = some (.int .i64 0) := (blk_cell BK156.out 4).trans rfl
                          have hcz69_5 : wr.cell? ⟨gb156, 5, none⟩ = some (.int .i64 0) := (blk_cell BK156.out 5).trans rfl
                          have hcz69_6 : wr.cell? ⟨gb156, 6, none⟩ = some (.int .i64 x157006_50) := (blk_cell BK156.out 6).trans rfl
                          have hcz69_7 : wr.cell? ⟨gb156, 7, none⟩ = some (.slice (some ad167) x157007_6.length co62) := (blk_cell BK156.out 7).trans rfl
                          have hfz69_0 := blk_frozen BK156.out 0
                          have hfz69_1 := blk_frozen BK156.out 1
                          have hfz69_2 := blk_frozen BK156.out 2
                          have hfz69_3 := blk_frozen BK156.out 3
                          have hfz69_4 := blk_frozen BK156.out 4
                          have hfz69_5 := blk_frozen BK156.out 5
                          have hfz69_6 := blk_frozen BK156.out 6
                          have hfz69_7 := blk_frozen BK156.out 7
                          have p67 : 0 ≤ (x138_6 : Int) := of_decide_eq_true (by first | (with_reducible assumption) | assumption)
                          have q67 : (x138_6 : Int) < ((x157007_6.length : Int) : Int) := of_decide_eq_true (by first | (with_reducible assumption) | assumption)
                          obtain ⟨go67, co67, eo67, gb67, gl67, cl67, HG67⟩ := Kd.R_form HO_157007.out (by omega)
                          (first | cases eo67 | (injection eo67 with ea_ en_ ec_; (first | subst ea_ | (injection ea_ with ea_; subst ea_)); subst ec_; clear en_))
                          have GB67 := Aside0.mk gb67
                          have GG67 := Aside0.mk HG67
                          clear gb67 gl67 HG67
                          (first | simp only [add_plain] at hx167_0 | skip)
                          obtain ⟨hx67_0, hf67_0⟩ := Kd.R_celln 0 HO_157007.out (x138_6 : Int) p67 q67
                          replace p67 := eq_true p67
                          replace q67 := eq_true q67
                          have HP70 := Kd.R_putg HO_157007.out (x138_6 : Int) x157006_50
                          iterate 3 (try go_wp2_with (first | ((with_reducible refine gate_store (t := 3) (p := 150) rfl ?_); (try (rw [drewN_self wr]; generalize hq_ : World.drewN wr _ = wr; have n0_ := Aside0.mk (Kd.R_at hq_ HO_157007.out); have n1_ := Aside0.mk (blk_at hq_ BK150.out); have n2_ := Aside0.mk (blk_at hq_ BK156.out); have n3_ := Aside0.mk (below_at hq_ HB.out); clear hq_ HO_157007 BK150 BK156 HB; have HO_157007 := n0_; have BK150 := n1_; have BK156 := n2_; have HB := n3_; clear n0_ n1_ n2_ n3_; (try (have HP70 := Kd.R_putg HO_157007.out (x138_6 : Int) x157006_50)))); refine store_event (t := 3) (p := 150) (v := ?vo_w71) (w1 := (wr.setCell ⟨go67, (x138_6 : Int).toNat, none⟩ (.int .i64 x157006_50))) ?hg ?ho ?hn ?hr ?_; (case ho => rfl); (case hg => rfl); (case hn => rfl); (case hr => first | (go_simp; done) | (go_simp; rfl)); intro w71 hw; have hg : wr.grownBy w71 (some go67) := (by rw [hw]; exact HP70.2); have hp_ : Kd.R (Kd.int .i64) 3 w71 w.heap.size (fun _ => True) (.slice (some ⟨go67, 0, none⟩) x157007_6.length co62) y168 := (by rw [hw, Ny168.out]; exact HP70.1); clear HP70; have n0_ := Aside0.mk (hp_); have n1_ := Aside0.mk (blk_grown (g := gb150) (o := .cells #[.int .i64 0, .int .i64 0, .int .i64 0, .int .i64 0, .int .i64 0, .int .i64 0, .int .i64 0, .slice none 0 0] 50 (0, 0)) (by (with_reducible repeat (first | refine blk_drewN ?_ _ | refine blk_drew ?_ | refine blk_alloc ?_ _)); exact BK150.out) hg (Kd.R_ne HO_157007.out BK150.out (by decide))); have n2_ := Aside0.mk (blk_grown (g := gb156) (o := .cells #[.int .i64 x9_23, .int .i64 x10_23, .int .i64 (wrap64 ((wrap64 (x11_23 - x9_23)) + 1)), .int .i64 (wrap64 ((wrap64 (x12_23 - x10_23)) + 1)), .int .i64 0, .int .i64 0, .int .i64 x157006_50, .slice (some ⟨go67, 0, none⟩) x157007_6.length co62] 50 (0, 0)) (by (with_reducible repeat (first | refine blk_drewN ?_ _ | refine blk_drew ?_ | refine blk_alloc ?_ _)); exact BK156.out) hg (Kd.R_ne HO_157007.out BK156.out (by decide))); have n3_ := Aside0.mk ((by rw [hw]; exact below_set (HB.out) GB67.out : Below w.heap.size w w71)); clear HO_157007; clear BK150; clear BK156; clear HB; have HO_157007 := n0_; have BK150 := n1_; have BK156 := n2_; have HB := n3_; clear n0_ n1_ n2_ n3_; clear hg hw hp_)); try go_quiet (first | ((with_reducible refine gate_store (t := 3) (p := 150) rfl ?_); (try (rw [drewN_self wr]; generalize hq_ : World.drewN wr _ = wr; have n0_ := Aside0.mk (Kd.R_at hq_ HO_157007.out); have n1_ := Aside0.mk (blk_at hq_ BK150.out); have n2_ := Aside0.mk (blk_at hq_ BK156.out); have n3_ := Aside0.mk (below_at hq_ HB.out); clear hq_ HO_157007 BK150 BK156 HB; have HO_157007 := n0_; have BK150 := n1_; have BK156 := n2_; have HB := n3_; clear n0_ n1_ n2_ n3_; (try (have HP70 := Kd.R_putg HO_157007.out (x138_6 : Int) x157006_50)))); refine store_event (t := 3) (p := 150) (v := ?vo_w71) (w1 := (wr.setCell ⟨go67, (x138_6 : Int).toNat, none⟩ (.int .i64 x157006_50))) ?hg ?ho ?hn ?hr ?_; (case ho => rfl); (case hg => rfl); (case hn => rfl); (case hr => first | (go_simp; done) | (go_simp; rfl)); intro w71 hw; have hg : wr.grownBy w71 (some go67) := (by rw [hw]; exact HP70.2); have hp_ : Kd.R (Kd.int .i64) 3 w71 w.heap.size (fun _ => True) (.slice (some ⟨go67, 0, none⟩) x157007_6.length co62) y168 := (by rw [hw, Ny168.out]; exact HP70.1); clear HP70; have n0_ := Aside0.mk (hp_); have n1_ := Aside0.mk (blk_grown (g := gb150) (o := .cells #[.int .i64 0, .int .i64 0, .int .i64 0, .int .i64 0, .int .i64 0, .int .i64 0, .int .i64 0, .slice none 0 0] 50 (0, 0)) (by (with_reducible repeat (first | refine blk_drewN ?_ _ | refine blk_drew ?_ | refine blk_alloc ?_ _)); exact BK150.out) hg (Kd.R_ne HO_157007.out BK150.out (by decide))); have n2_ := Aside0.mk (blk_grown (g := gb156) (o := .cells #[.int .i64 x9_23, .int .i64 x10_23, .int .i64 (wrap64 ((wrap64 (x11_23 - x9_23)) + 1)), .int .i64 (wrap64 ((wrap64 (x12_23 - x10_23)) + 1)), .int .i64 0, .int .i64 0, .int .i64 x157006_50, .slice (some ⟨go67, 0, none⟩) x157007_6.length co62] 50 (0, 0)) (by (with_reducible repeat (first | refine blk_drewN ?_ _ | refine blk_drew ?_ | refine blk_alloc ?_ _)); exact BK156.out) hg (Kd.R_ne HO_157007.out BK156.out (by decide))); have n3_ := Aside0.mk ((by rw [hw]; exact below_set (HB.out) GB67.out : Below w.heap.size w w71)); clear HO_157007; clear BK150; clear BK156; clear HB; have HO_157007 := n0_; have BK150 := n1_; have BK156 := n2_; have HB := n3_; clear n0_ n1_ n2_ n3_; clear hg hw hp_)))
                          (try simp only [← hl157007_6])
                          go_roundg k6
                          case measure => have := HJ4.out; have := HK2.out; have := HJ23.out; have := HK4.out; have := HJ50.out; have := HK6.out; omega
                          case rel => exact ⟨(wrap64 (x138_6 + 1)), (y168), (by first | rfl | (simp; done) | (simp [*]; done)), H', ⟨by have := HJ4.out; have := HK2.out; have := HJ23.out; have := HK4.out; have := HJ50.out; have := HK6.out; omega⟩, ⟨by (try simp only [hl157007_6]); (with_reducible repeat (first | apply Kd.R_alloc | apply Kd.R_drewN | apply Kd.R_drew)); exact HO_157007.out⟩, ⟨by (try simp only [hl157007_6]); (with_reducible repeat (first | refine blk_drewN ?_ _ | refine blk_drew ?_ | refine blk_alloc ?_ _)); exact BK150.out⟩, ⟨by (try simp only [hl157007_6]); (with_reducible repeat (first | refine blk_drewN ?_ _ | refine blk_drew ?_ | refine blk_alloc ?_ _)); exact BK156.out⟩, ⟨by repeat (first | (with_reducible first | exact HB.out | apply below_alloc | apply pw_below_drewN | apply below_drew1 | refine below_set ?_ GE150.out | refine below_set ?_ GE156.out) | exact HB.out)⟩⟩

end Go.Proofs.Ytglaedjadlappaa.PFnBetween

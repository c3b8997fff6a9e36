-- written by myprint.py (a program of this session's over the kit's print)
import Derived.Test.YtmnihpedokeggaaPFnExactGuessx0
import Derived.Test.YtmnihpedokeggaaPFnExactGuessx1
namespace Go.Proofs.Ytmnihpedokeggaa.PFnExactGuess
open Go.RowKit Go.Proofs.YtmnihpedokeggaaW.PrintWords Go.Proofs.YtmnihpedokeggaaW.PrintLast Go.Proofs.YtmnihpedokeggaaW.PrintMore
attribute [local go_sem] max2_int min2_int max_two min_two max_three min_three max_four min_four   -- for this text's walks alone
set_option linter.unusedVariables false
set_option linter.unusedSimpArgs false

/-! ### spec_l13Guess: function 78 -/
mutual
def spec_l13Guess.j0 : Nat → Int → Int → List Int → List Int → Int → List Int → Bool → Option (List Int × Bool)
  | 0, _, _, _, _, _, _, _ => none
  | k + 1, x0, x1, x2, x3, x4, x12, x46 => if x46 = true then (some (([] : List Int), false)) else (spec_l13Guess.l0 k x0 x1 x2 x3 x4 x12 0 (wrap64 ((x2.length : Int) + (x3.length : Int))) x2 (x2.length : Int) 0)
def spec_l13Guess.l0 : Nat → Int → Int → List Int → List Int → Int → List Int → Int → Int → List Int → Int → Int → Option (List Int × Bool)
  | 0, _, _, _, _, _, _, _, _, _, _, _ => none
  | k + 1, x0, x1, x2, x3, x4, x12, x13, x14, x52, x53, x54 => if x54 < x53 then (if 0 ≤ x54 then (if x54 < (x52.length : Int) then (spec_l13Guess.l0 k x0 x1 x2 x3 x4 x12 (wrap64 (x13 + (rd x52 x54))) x14 x52 x53 (wrap64 (x54 + 1))) else (none)) else (none)) else (spec_l13Guess.l1 k x0 x1 x2 x3 x4 x12 x13 x14 x3 (x3.length : Int) 0)
def spec_l13Guess.l1 : Nat → Int → Int → List Int → List Int → Int → List Int → Int → Int → List Int → Int → Int → Option (List Int × Bool)
  | 0, _, _, _, _, _, _, _, _, _, _, _ => none
  | k + 1, x0, x1, x2, x3, x4, x12, x13, x14, x62, x63, x64 => if x64 < x63 then (if 0 ≤ x64 then (if x64 < (x62.length : Int) then (spec_l13Guess.l1 k x0 x1 x2 x3 x4 x12 (wrap64 (x13 + (rd x62 x64))) x14 x62 x63 (wrap64 (x64 + 1))) else (none)) else (none)) else (if x14 > 0 then (if x14 = 0 then (none) else (spec_l13Guess.j3 k x0 x1 x2 x3 x4 x12 (wrap64 (Int.tdiv (wrap64 (x13 + (wrap64 (Int.tdiv x14 2)))) x14)))) else (spec_l13Guess.j3 k x0 x1 x2 x3 x4 x12 128))
def spec_l13Guess.j3 : Nat → Int → Int → List Int → List Int → Int → List Int → Int → Option (List Int × Bool)
  | 0, _, _, _, _, _, _, _ => none
  | k + 1, x0, x1, x2, x3, x4, x12, x19 => spec_l13Guess.l2 k x0 x1 x2 x3 x4 x12 x19 (x12.length : Int) 0
def spec_l13Guess.l2 : Nat → Int → Int → List Int → List Int → Int → List Int → Int → Int → Int → Option (List Int × Bool)
  | 0, _, _, _, _, _, _, _, _, _ => none
  | k + 1, x0, x1, x2, x3, x4, x12, x19, x81, x82 => if x82 < x81 then (if x1 = 0 then (none) else (if x0 = 0 then (if 0 ≤ x82 then (if x82 < (x12.length : Int) then (spec_l13Guess.l2 k x0 x1 x2 x3 x4 (x12.set (x82 : Int).toNat x19) x19 x81 (wrap64 (x82 + 1))) else (none)) else (none)) else (if x0 = 1 then (if 0 ≤ (wrap64 (Int.tdiv x82 x1)) then (if (wrap64 (Int.tdiv x82 x1)) < (x2.length : Int) then (if 0 ≤ x82 then (if x82 < (x12.length : Int) then (spec_l13Guess.l2 k x0 x1 x2 x3 x4 (x12.set (x82 : Int).toNat (rd x2 (wrap64 (Int.tdiv x82 x1)))) x19 x81 (wrap64 (x82 + 1))) else (none)) else (none)) else (none)) else (none)) else (if x0 = 2 then (if 0 ≤ (Int.tmod x82 x1) then (if (Int.tmod x82 x1) < (x3.length : Int) then (if 0 ≤ x82 then (if x82 < (x12.length : Int) then (spec_l13Guess.l2 k x0 x1 x2 x3 x4 (x12.set (x82 : Int).toNat (rd x3 (Int.tmod x82 x1))) x19 x81 (wrap64 (x82 + 1))) else (none)) else (none)) else (none)) else (none)) else (if 0 ≤ (wrap64 (Int.tdiv x82 x1)) then (if (wrap64 (Int.tdiv x82 x1)) < (x2.length : Int) then (if 0 ≤ (Int.tmod x82 x1) then (if (Int.tmod x82 x1) < (x3.length : Int) then ((spec_l7Clip.f (wrap64 ((wrap64 ((rd x2 (wrap64 (Int.tdiv x82 x1))) + (rd x3 (Int.tmod x82 x1)))) - x4))).bind fun t114 => (if 0 ≤ x82 then (if x82 < (x12.length : Int) then (spec_l13Guess.l2 k x0 x1 x2 x3 x4 (x12.set (x82 : Int).toNat t114) x19 x81 (wrap64 (x82 + 1))) else (none)) else (none))) else (none)) else (none)) else (none)) else (none)))))) else (some (x12, true))
end
def spec_l13Guess.f (k : Nat) (a0 : Int) (a1 : Int) (l2 : List Int) (l3 : List Int) (a4 : Int) : Option (List Int × Bool) := if 0 ≤ (wrap64 (a1 * a1)) then (if (wrap64 (a1 * a1) : Int).toNat ≤ 35184372088832 then ((some (List.replicate (wrap64 (a1 * a1) : Int).toNat 0 : List Int)).bind fun y102 => (if a0 = 0 then (if a0 > 1 then (spec_l13Guess.j0 k a0 a1 l2 l3 a4 y102 ((l3.length : Int) == 0)) else (spec_l13Guess.j0 k a0 a1 l2 l3 a4 y102 false)) else (if a0 = 2 then (if a0 > 1 then (spec_l13Guess.j0 k a0 a1 l2 l3 a4 y102 ((l3.length : Int) == 0)) else (spec_l13Guess.j0 k a0 a1 l2 l3 a4 y102 false)) else (if (l2.length : Int) = 0 then (spec_l13Guess.j0 k a0 a1 l2 l3 a4 y102 true) else (if a0 > 1 then (spec_l13Guess.j0 k a0 a1 l2 l3 a4 y102 ((l3.length : Int) == 0)) else (spec_l13Guess.j0 k a0 a1 l2 l3 a4 y102 false)))))) else (none)) else (none)
theorem spec_l13Guess.mono_l : ∀ k, (∀ y0 y1 y2 y3 y4 y5 y6, LeO (spec_l13Guess.j0 k y0 y1 y2 y3 y4 y5 y6) (spec_l13Guess.j0 (k + 1) y0 y1 y2 y3 y4 y5 y6)) ∧ (∀ y0 y1 y2 y3 y4 y5 y6 y7 y8 y9 y10, LeO (spec_l13Guess.l0 k y0 y1 y2 y3 y4 y5 y6 y7 y8 y9 y10) (spec_l13Guess.l0 (k + 1) y0 y1 y2 y3 y4 y5 y6 y7 y8 y9 y10)) ∧ (∀ y0 y1 y2 y3 y4 y5 y6 y7 y8 y9 y10, LeO (spec_l13Guess.l1 k y0 y1 y2 y3 y4 y5 y6 y7 y8 y9 y10) (spec_l13Guess.l1 (k + 1) y0 y1 y2 y3 y4 y5 y6 y7 y8 y9 y10)) ∧ (∀ y0 y1 y2 y3 y4 y5 y6, LeO (spec_l13Guess.j3 k y0 y1 y2 y3 y4 y5 y6) (spec_l13Guess.j3 (k + 1) y0 y1 y2 y3 y4 y5 y6)) ∧ (∀ y0 y1 y2 y3 y4 y5 y6 y7 y8, LeO (spec_l13Guess.l2 k y0 y1 y2 y3 y4 y5 y6 y7 y8) (spec_l13Guess.l2 (k + 1) y0 y1 y2 y3 y4 y5 y6 y7 y8))
  | 0 => ⟨fun _ _ _ _ _ _ _ r h => by simp [spec_l13Guess.j0] at h, fun _ _ _ _ _ _ _ _ _ _ _ r h => by simp [spec_l13Guess.l0] at h, fun _ _ _ _ _ _ _ _ _ _ _ r h => by simp [spec_l13Guess.l1] at h, fun _ _ _ _ _ _ _ r h => by simp [spec_l13Guess.j3] at h, fun _ _ _ _ _ _ _ _ _ r h => by simp [spec_l13Guess.l2] at h⟩
  | k + 1 => by
    obtain ⟨ih0, ih1, ih2, ih3, ih4⟩ := spec_l13Guess.mono_l k
    refine ⟨?_, ?_, ?_, ?_, ?_⟩
    · intro y0 y1 y2 y3 y4 y5 y6
      unfold spec_l13Guess.j0
      repeat' first
      | (with_reducible exact ih0 _ _ _ _ _ _ _)
      | (with_reducible exact ih1 _ _ _ _ _ _ _ _ _ _ _)
      | (with_reducible exact ih2 _ _ _ _ _ _ _ _ _ _ _)
      | (with_reducible exact ih3 _ _ _ _ _ _ _)
      | (with_reducible exact ih4 _ _ _ _ _ _ _ _ _)
      | (with_reducible exact LeO.refl _)
      | (with_reducible exact LeO.none _)
      | (with_reducible refine LeO.ite ?_ ?_)
      | (with_reducible refine LeO.bind ?_ (fun _ => ?_))
      | exact ih0 _ _ _ _ _ _ _
      | exact ih1 _ _ _ _ _ _ _ _ _ _ _
      | exact ih2 _ _ _ _ _ _ _ _ _ _ _
      | exact ih3 _ _ _ _ _ _ _
      | exact ih4 _ _ _ _ _ _ _ _ _
      | exact LeO.none _
      | refine LeO.ite ?_ ?_
      | refine LeO.bind ?_ (fun _ => ?_)
    · intro y0 y1 y2 y3 y4 y5 y6 y7 y8 y9 y10
      unfold spec_l13Guess.l0
      repeat' first
      | (with_reducible exact ih0 _ _ _ _ _ _ _)
      | (with_reducible exact ih1 _ _ _ _ _ _ _ _ _ _ _)
      | (with_reducible exact ih2 _ _ _ _ _ _ _ _ _ _ _)
      | (with_reducible exact ih3 _ _ _ _ _ _ _)
      | (with_reducible exact ih4 _ _ _ _ _ _ _ _ _)
      | (with_reducible exact LeO.refl _)
      | (with_reducible exact LeO.none _)
      | (with_reducible refine LeO.ite ?_ ?_)
      | (with_reducible refine LeO.bind ?_ (fun _ => ?_))
      | exact ih0 _ _ _ _ _ _ _
      | exact ih1 _ _ _ _ _ _ _ _ _ _ _
      | exact ih2 _ _ _ _ _ _ _ _ _ _ _
      | exact ih3 _ _ _ _ _ _ _
      | exact ih4 _ _ _ _ _ _ _ _ _
      | exact LeO.none _
      | refine LeO.ite ?_ ?_
      | refine LeO.bind ?_ (fun _ => ?_)
    · intro y0 y1 y2 y3 y4 y5 y6 y7 y8 y9 y10
      unfold spec_l13Guess.l1
      repeat' first
      | (with_reducible exact ih0 _ _ _ _ _ _ _)
      | (with_reducible exact ih1 _ _ _ _ _ _ _ _ _ _ _)
      | (with_reducible exact ih2 _ _ _ _ _ _ _ _ _ _ _)
      | (with_reducible exact ih3 _ _ _ _ _ _ _)
      | (with_reducible exact ih4 _ _ _ _ _ _ _ _ _)
      | (with_reducible exact LeO.refl _)
      | (with_reducible exact LeO.none _)
      | (with_reducible refine LeO.ite ?_ ?_)
      | (with_reducible refine LeO.bind ?_ (fun _ => ?_))
      | exact ih0 _ _ _ _ _ _ _
      | exact ih1 _ _ _ _ _ _ _ _ _ _ _
      | exact ih2 _ _ _ _ _ _ _ _ _ _ _
      | exact ih3 _ _ _ _ _ _ _
      | exact ih4 _ _ _ _ _ _ _ _ _
      | exact LeO.none _
      | refine LeO.ite ?_ ?_
      | refine LeO.bind ?_ (fun _ => ?_)
    · intro y0 y1 y2 y3 y4 y5 y6
      unfold spec_l13Guess.j3
      repeat' first
      | (with_reducible exact ih0 _ _ _ _ _ _ _)
      | (with_reducible exact ih1 _ _ _ _ _ _ _ _ _ _ _)
      | (with_reducible exact ih2 _ _ _ _ _ _ _ _ _ _ _)
      | (with_reducible exact ih3 _ _ _ _ _ _ _)
      | (with_reducible exact ih4 _ _ _ _ _ _ _ _ _)
      | (with_reducible exact LeO.refl _)
      | (with_reducible exact LeO.none _)
      | (with_reducible refine LeO.ite ?_ ?_)
      | (with_reducible refine LeO.bind ?_ (fun _ => ?_))
      | exact ih0 _ _ _ _ _ _ _
      | exact ih1 _ _ _ _ _ _ _ _ _ _ _
      | exact ih2 _ _ _ _ _ _ _ _ _ _ _
      | exact ih3 _ _ _ _ _ _ _
      | exact ih4 _ _ _ _ _ _ _ _ _
      | exact LeO.none _
      | refine LeO.ite ?_ ?_
      | refine LeO.bind ?_ (fun _ => ?_)
    · intro y0 y1 y2 y3 y4 y5 y6 y7 y8
      unfold spec_l13Guess.l2
      repeat' first
      | (with_reducible exact ih0 _ _ _ _ _ _ _)
      | (with_reducible exact ih1 _ _ _ _ _ _ _ _ _ _ _)
      | (with_reducible exact ih2 _ _ _ _ _ _ _ _ _ _ _)
      | (with_reducible exact ih3 _ _ _ _ _ _ _)
      | (with_reducible exact ih4 _ _ _ _ _ _ _ _ _)
      | (with_reducible exact LeO.refl _)
      | (with_reducible exact LeO.none _)
      | (with_reducible refine LeO.ite ?_ ?_)
      | (with_reducible refine LeO.bind ?_ (fun _ => ?_))
      | exact ih0 _ _ _ _ _ _ _
      | exact ih1 _ _ _ _ _ _ _ _ _ _ _
      | exact ih2 _ _ _ _ _ _ _ _ _ _ _
      | exact ih3 _ _ _ _ _ _ _
      | exact ih4 _ _ _ _ _ _ _ _ _
      | exact LeO.none _
      | refine LeO.ite ?_ ?_
      | refine LeO.bind ?_ (fun _ => ?_)
theorem spec_l13Guess.mono : ∀ a0 a1 a2 a3 a4 k, LeO (spec_l13Guess.f k a0 a1 a2 a3 a4) (spec_l13Guess.f (k + 1) a0 a1 a2 a3 a4) := by
  intro a0 a1 a2 a3 a4 k
  obtain ⟨ih0, ih1, ih2, ih3, ih4⟩ := spec_l13Guess.mono_l k
  unfold spec_l13Guess.f
  repeat' first
      | (with_reducible exact ih0 _ _ _ _ _ _ _)
      | (with_reducible exact ih1 _ _ _ _ _ _ _ _ _ _ _)
      | (with_reducible exact ih2 _ _ _ _ _ _ _ _ _ _ _)
      | (with_reducible exact ih3 _ _ _ _ _ _ _)
      | (with_reducible exact ih4 _ _ _ _ _ _ _ _ _)
      | (with_reducible exact LeO.refl _)
      | (with_reducible exact LeO.none _)
      | (with_reducible refine LeO.ite ?_ ?_)
      | (with_reducible refine LeO.bind ?_ (fun _ => ?_))
      | exact ih0 _ _ _ _ _ _ _
      | exact ih1 _ _ _ _ _ _ _ _ _ _ _
      | exact ih2 _ _ _ _ _ _ _ _ _ _ _
      | exact ih3 _ _ _ _ _ _ _
      | exact ih4 _ _ _ _ _ _ _ _ _
      | exact LeO.none _
      | refine LeO.ite ?_ ?_
      | refine LeO.bind ?_ (fun _ => ?_)
def spec_l13Guess.T25 : Bool × List (List Nat × List Nat) := (true, [([], []), ([], []), ([], []), ([], []), ([2, 3], [2, 3]), ([4], [4]), ([], []), ([], []), ([6, 7], [6, 7]), ([8], [8]), ([5, 9], [5, 9]), ([], []), ([10, 11], [10, 11]), ([12], [12]), ([0, 1, 0, 1, 2, 3, 4, 5, 6, 7, 8, 9, 10, 11, 12, 13], [0, 1]), ([14, 13, 13, 0, 1, 2, 3, 4, 5, 6, 7, 8, 9, 10, 11, 12, 13], [13, 14])])
def spec_l13Guess.B25 : List Nat := [0, 0, 0, 0, 12, 28, 0, 0, 192, 448, 1020, 0, 4092, 8188, 16383, 32767]
theorem spec_l13Guess.tab25 : rtab .any (opsOf Try.f78 25) = spec_l13Guess.T25 := by kernel_rfl
theorem spec_l13Guess.bits25 : waitsOk spec_l13Guess.T25.2 spec_l13Guess.B25 = true := by kernel_rfl
set_option maxHeartbeats 8000000 in
set_option maxRecDepth 100000 in
theorem spec_l13Guess.calls (k : Nat) (a0 : Int) (a1 : Int) (A2 : Option Addr) (c2 : Nat) (l2 : List Int) (A3 : Option Addr) (c3 : Nat) (l3 : List Int) (a4 : Int) (r1 : List Int) (r2 : Bool) (w : World) (hr2 : Kd.C (Kd.int .i64) w A2 l2.length l2) (hc2 : l2.length ≤ c2) (hr3 : Kd.C (Kd.int .i64) w A3 l3.length l3) (hc3 : l3.length ≤ c3) (h : spec_l13Guess.f k a0 a1 l2 l3 a4 = some (r1, r2)) :
    Calls Try.prog 78 #[.int .i64 a0, .int .i64 a1, .slice A2 l2.length c2, .slice A3 l3.length c3, .int .i64 a4] w fun e w' => ∃ v0_ : Value, e = .returned (.tuple #[v0_, .bool r2]) ∧ Kd.R (Kd.int .i64) 3 w' w.heap.size (fun _ => True) v0_ r1 ∧ Below w.heap.size w w' := by
  have HR2 := Aside0.mk hr2
  have HC2 := Aside0.mk hc2
  clear hr2 hc2
  have HR3 := Aside0.mk hr3
  have HC3 := Aside0.mk hc3
  clear hr3 hc3
  have HB := Aside0.mk (Below.refl w.heap.size w)
  have H : (if 0 ≤ (wrap64 (a1 * a1)) then (if (wrap64 (a1 * a1) : Int).toNat ≤ 35184372088832 then ((some (List.replicate (wrap64 (a1 * a1) : Int).toNat 0 : List Int)).bind fun y102 => (if a0 = 0 then (if a0 > 1 then (spec_l13Guess.j0 k a0 a1 l2 l3 a4 y102 ((l3.length : Int) == 0)) else (spec_l13Guess.j0 k a0 a1 l2 l3 a4 y102 false)) else (if a0 = 2 then (if a0 > 1 then (spec_l13Guess.j0 k a0 a1 l2 l3 a4 y102 ((l3.length : Int) == 0)) else (spec_l13Guess.j0 k a0 a1 l2 l3 a4 y102 false)) else (if (l2.length : Int) = 0 then (spec_l13Guess.j0 k a0 a1 l2 l3 a4 y102 true) else (if a0 > 1 then (spec_l13Guess.j0 k a0 a1 l2 l3 a4 y102 ((l3.length : Int) == 0)) else (spec_l13Guess.j0 k a0 a1 l2 l3 a4 y102 false)))))) else (none)) else (none)) = some (r1, r2) := h
  clear h
  obtain ⟨ji6, hji6⟩ : ∃ j_ : Int, (wrap64 (a1 * a1)) = j_ := ⟨_, rfl⟩
  replace H : (if 0 ≤ (ji6) then (if (ji6 : Int).toNat ≤ 35184372088832 then ((some (List.replicate (ji6 : Int).toNat 0 : List Int)).bind fun y102 => (if a0 = 0 then (if a0 > 1 then (spec_l13Guess.j0 k a0 a1 l2 l3 a4 y102 ((l3.length : Int) == 0)) else (spec_l13Guess.j0 k a0 a1 l2 l3 a4 y102 false)) else (if a0 = 2 then (if a0 > 1 then (spec_l13Guess.j0 k a0 a1 l2 l3 a4 y102 ((l3.length : Int) == 0)) else (spec_l13Guess.j0 k a0 a1 l2 l3 a4 y102 false)) else (if (l2.length : Int) = 0 then (spec_l13Guess.j0 k a0 a1 l2 l3 a4 y102 true) else (if a0 > 1 then (spec_l13Guess.j0 k a0 a1 l2 l3 a4 y102 ((l3.length : Int) == 0)) else (spec_l13Guess.j0 k a0 a1 l2 l3 a4 y102 false)))))) else (none)) else (none)) = some (r1, r2) := by first | (rw [hji6] at H; exact H) | (simp only [hji6] at H ⊢; exact H)
  have hji6w : (IntKind.i64.wrap (a1 * a1)) = ji6 := (i64_w _).trans hji6
  by_cases c7 : 0 ≤ (ji6)
  rotate_left
  · rw [if_neg c7] at H
    exact absurd H (by simp)
  rw [if_pos c7] at H
  have c7b0 := eq_true c7
  have c7b1 : decide (0 ≤ (ji6)) = true := decide_eq_true c7
  clear c7
  by_cases c8 : (ji6 : Int).toNat ≤ 35184372088832
  rotate_left
  · rw [if_neg c8] at H
    exact absurd H (by simp)
  rw [if_pos c8] at H
  have c8b0 := eq_true c8
  have c8b1 : decide ((ji6 : Int).toNat ≤ 35184372088832) = true := decide_eq_true c8
  clear c8
  obtain ⟨y102, hy102⟩ : ∃ y_ : List Int, y_ = (List.replicate (ji6 : Int).toNat 0) := ⟨_, rfl⟩
  replace H : (if a0 = 0 then (if a0 > 1 then (spec_l13Guess.j0 k a0 a1 l2 l3 a4 y102 ((l3.length : Int) == 0)) else (spec_l13Guess.j0 k a0 a1 l2 l3 a4 y102 false)) else (if a0 = 2 then (if a0 > 1 then (spec_l13Guess.j0 k a0 a1 l2 l3 a4 y102 ((l3.length : Int) == 0)) else (spec_l13Guess.j0 k a0 a1 l2 l3 a4 y102 false)) else (if (l2.length : Int) = 0 then (spec_l13Guess.j0 k a0 a1 l2 l3 a4 y102 true) else (if a0 > 1 then (spec_l13Guess.j0 k a0 a1 l2 l3 a4 y102 ((l3.length : Int) == 0)) else (spec_l13Guess.j0 k a0 a1 l2 l3 a4 y102 false))))) = some (r1, r2) := by first | (rw [hy102]; with_reducible exact H) | (have H2_ := (Option.bind_some _ _).symm.trans H; rw [hy102]; with_reducible exact H2_) | (have H2_ := (Option.bind_some _ _).symm.trans H; with_reducible exact H2_) | with_reducible exact H | (rw [hy102]; exact H) | exact H
  have Ny102 := Aside0.mk hy102
  clear hy102
  have HC9 := Aside0.mk H
  clear H
  go_enter Try.func78, Try.ntmps78
  go_upto_region 2 with (first | ((with_reducible refine gate_dst (N := 26) rfl ?_); (try (refine gate_guard (by rfl) ?_; dsimp only)); refine Kd.R_make (Kd.int .i64) _ 3 rfl (N := 26) rfl 41 _ _ rfl ji6 rfl rfl Try.underlying41 (.int .i64 0) 8 info3 rfl (by decide) (by omega) 0 (ok := fun _ => True) (okp := fun _ => True) rfl (fun _ hk => hk) trivial (of_decide_eq_true (by first | (with_reducible assumption) | assumption)) (Nat.le_trans (Nat.mul_le_mul_right _ (of_decide_eq_true (by first | (with_reducible assumption) | assumption) : ji6.toNat ≤ 35184372088832)) (by omega)) (Below.refl _ _) (Nat.le_refl _) ?_; intro v103 w10 ho11 hb hg_ hnew_; clear hg_ hnew_; (first | rw [← Ny102.out] at ho11 | (simp only [Int.reduceToNat] at ho11; rw [← Ny102.out] at ho11)); have n0_ := Aside0.mk (Kd.R_lower ho11 (below_size (by repeat (first | (with_reducible first | exact HB.out | apply below_alloc | apply pw_below_drewN | apply below_drew1) | exact HB.out)))); have n1_ := Aside0.mk (below_step (by repeat (first | (with_reducible first | exact HB.out | apply below_alloc | apply pw_below_drewN | apply below_drew1) | exact HB.out)) hb); clear HB; have HO104 := n0_; have HB := n1_; clear n0_ n1_; clear hb ho11))
  (try simp only [Act.put, List.setIfInBounds_toArray, List.set_cons_zero, List.set_cons_succ])
  go_cut [46] (fun v46 wc => ∃ (kq : Nat) (x46_8 : Bool), v46 = .bool x46_8 ∧ Aside0 (spec_l13Guess.j0 kq a0 a1 l2 l3 a4 y102 x46_8 = some (r1, r2)) ∧ Aside0 (kq ≤ k) ∧ Aside0 (Kd.R (Kd.int .i64) 3 wc w.heap.size (fun _ => True) v103 y102) ∧ Aside0 (Below w.heap.size w wc))
  case first =>
    have H := HC9.out
    clear HC9
    by_cases c12 : a0 = 0
    · rw [if_pos c12] at H
      have c12b0 : (a0 == 0) = true := beq_iff_eq.mpr c12
      have c12b1 : (a0 != 0) = false := bne_eq_false_iff_eq.mpr c12
      clear c12
      (first | rw [c12b0] | (simp only [i64_w, i32_w]; rw [c12b0]) | skip)
      by_cases c13 : a0 > 1
      rotate_left
      · rw [if_neg c13] at H
        have c13b0 : decide (1 < a0) = false := decide_eq_false c13
        clear c13
        have H' := Aside0.mk H
        clear H
        go_wp2
        go_meet
        case rel => exact ⟨_, (false), (by first | rfl | (simp; done) | (simp [*]; done)), H', ⟨by first | omega | exact Nat.le_refl _⟩, ⟨by (with_reducible repeat (first | apply Kd.R_alloc | apply Kd.R_drewN | apply Kd.R_drew)); exact HO104.out⟩, ⟨by repeat (first | (with_reducible first | exact HB.out | apply below_alloc | apply pw_below_drewN | apply below_drew1) | exact HB.out)⟩⟩
      rw [if_pos c13] at H
      have c13b0 : decide (1 < a0) = true := decide_eq_true c13
      clear c13
      have H' := Aside0.mk H
      clear H
      go_wp2
      go_meet
      case rel => exact ⟨_, (((l3.length : Int) == 0)), (by first | rfl | (simp; done) | (simp [*]; done)), H', ⟨by first | omega | exact Nat.le_refl _⟩, ⟨by (with_reducible repeat (first | apply Kd.R_alloc | apply Kd.R_drewN | apply Kd.R_drew)); exact HO104.out⟩, ⟨by repeat (first | (with_reducible first | exact HB.out | apply below_alloc | apply pw_below_drewN | apply below_drew1) | exact HB.out)⟩⟩
    rw [if_neg c12] at H
    have c12b0 : (a0 == 0) = false := beq_eq_false_iff_ne.mpr c12
    have c12b1 : (a0 != 0) = true := bne_iff_ne.mpr c12
    (first | rw [c12b0] | (simp only [i64_w, i32_w]; rw [c12b0]) | skip)
    by_cases c14 : a0 = 2
    · rw [if_pos c14] at H
      have c14b0 : (a0 == 2) = true := beq_iff_eq.mpr c14
      have c14b1 : (a0 != 2) = false := bne_eq_false_iff_eq.mpr c14
      clear c14
      by_cases c15 : a0 > 1
      rotate_left
      · rw [if_neg c15] at H
        have c15b0 : decide (1 < a0) = false := decide_eq_false c15
        clear c15
        have H' := Aside0.mk H
        clear H
        go_wp2
        go_meet
        case rel => exact ⟨_, (false), (by first | rfl | (simp; done) | (simp [*]; done)), H', ⟨by first | omega | exact Nat.le_refl _⟩, ⟨by (with_reducible repeat (first | apply Kd.R_alloc | apply Kd.R_drewN | apply Kd.R_drew)); exact HO104.out⟩, ⟨by repeat (first | (with_reducible first | exact HB.out | apply below_alloc | apply pw_below_drewN | apply below_drew1) | exact HB.out)⟩⟩
      rw [if_pos c15] at H
      have c15b0 : decide (1 < a0) = true := decide_eq_true c15
      clear c15
      have H' := Aside0.mk H
      clear H
      go_wp2
      go_meet
      case rel => exact ⟨_, (((l3.length : Int) == 0)), (by first | rfl | (simp; done) | (simp [*]; done)), H', ⟨by first | omega | exact Nat.le_refl _⟩, ⟨by (with_reducible repeat (first | apply Kd.R_alloc | apply Kd.R_drewN | apply Kd.R_drew)); exact HO104.out⟩, ⟨by repeat (first | (with_reducible first | exact HB.out | apply below_alloc | apply pw_below_drewN | apply below_drew1) | exact HB.out)⟩⟩
    rw [if_neg c14] at H
    have c14b0 : (a0 == 2) = false := beq_eq_false_iff_ne.mpr c14
    have c14b1 : (a0 != 2) = true := bne_iff_ne.mpr c14
    by_cases c16 : (l2.length : Int) = 0
    · rw [if_pos c16] at H
      have c16b0 : ((l2.length : Int) == 0) = true := beq_iff_eq.mpr c16
      have c16b1 : ((l2.length : Int) != 0) = false := bne_eq_false_iff_eq.mpr c16
      clear c16
      have H' := Aside0.mk H
      clear H
      go_wp2
      go_meet
      case rel => exact ⟨_, (true), (by first | rfl | (simp; done) | (simp [*]; done)), H', ⟨by first | omega | exact Nat.le_refl _⟩, ⟨by (with_reducible repeat (first | apply Kd.R_alloc | apply Kd.R_drewN | apply Kd.R_drew)); exact HO104.out⟩, ⟨by repeat (first | (with_reducible first | exact HB.out | apply below_alloc | apply pw_below_drewN | apply below_drew1) | exact HB.out)⟩⟩
    rw [if_neg c16] at H
    have c16b0 : ((l2.length : Int) == 0) = false := beq_eq_false_iff_ne.mpr c16
    have c16b1 : ((l2.length : Int) != 0) = true := bne_iff_ne.mpr c16
    have c16b2 : ¬ (l2 = []) := fun h_ => c16 (by rw [h_]; rfl)
    by_cases c17 : a0 > 1
    rotate_left
    · rw [if_neg c17] at H
      have c17b0 : decide (1 < a0) = false := decide_eq_false c17
      clear c17
      have H' := Aside0.mk H
      clear H
      go_wp2
      go_meet
      case rel => exact ⟨_, (false), (by first | rfl | (simp; done) | (simp [*]; done)), H', ⟨by first | omega | exact Nat.le_refl _⟩, ⟨by (with_reducible repeat (first | apply Kd.R_alloc | apply Kd.R_drewN | apply Kd.R_drew)); exact HO104.out⟩, ⟨by repeat (first | (with_reducible first | exact HB.out | apply below_alloc | apply pw_below_drewN | apply below_drew1) | exact HB.out)⟩⟩
    rw [if_pos c17] at H
    have c17b0 : decide (1 < a0) = true := decide_eq_true c17
    clear c17
    have H' := Aside0.mk H
    clear H
    go_wp2
    go_meet
    case rel => exact ⟨_, (((l3.length : Int) == 0)), (by first | rfl | (simp; done) | (simp [*]; done)), H', ⟨by first | omega | exact Nat.le_refl _⟩, ⟨by (with_reducible repeat (first | apply Kd.R_alloc | apply Kd.R_drewN | apply Kd.R_drew)); exact HO104.out⟩, ⟨by repeat (first | (with_reducible first | exact HB.out | apply below_alloc | apply pw_below_drewN | apply below_drew1) | exact HB.out)⟩⟩
  case rest =>
    clear HC9
    try clear c1
    try clear c2
    try clear p2
    try clear c3
    try clear p6
    try clear c7
    try clear c7b0
    try clear c7b1
    try clear c8
    try clear c8b0
    try clear c8b1
    try clear c12
    try clear c12b0
    try clear c12b1
    try clear c13
    try clear c13b0
    try clear c14
    try clear c14b0
    try clear c14b1
    try clear c15
    try clear c15b0
    try clear c16
    try clear c16b0
    try clear c16b1
    try clear c16b2
    try clear c17
    try clear c17b0
    obtain ⟨kq, x46_8, rfl, HA, HJ8, HO_12, HB⟩ := hcut
    cases kq with
    | zero => exact absurd HA.out (by simp [spec_l13Guess.j0])
    | succ kj8 =>
      have H := HA.out
      clear HA
      simp only [spec_l13Guess.j0] at H
      by_cases c18 : x46_8 = true
      · subst c18
        have H1 : (some (([] : List Int), false)) = some (r1, r2) := by rw [if_pos rfl] at H; exact H
        clear H
        have H := H1
        clear H1
        simp only [Option.some.injEq, Prod.mk.injEq] at H
        obtain ⟨rfl, rfl⟩ := H
        go_wp2
        go_ret2
        exact ⟨_, by first | rfl | (simp [errW_none, errW_some] <;> rfl) | (simp only [← hji6]; first | rfl | (simp [errW_none, errW_some] <;> rfl)) | (simp [*, errW_none, errW_some] <;> rfl), by first | exact Kd.R_nil _ _ _ _ _ | exact Kd.N_nil _ _ _ _ _ | exact Kd.V_nil _ _ _ _ _ | exact Kd.Q_nil _ _ _ _ _ | exact Kd.S_nil _ _ _ _ _, by repeat (first | (with_reducible first | exact HB.out | apply below_alloc | apply pw_below_drewN | apply below_drew1) | exact HB.out)⟩
      replace c18 := Bool.eq_false_iff.mpr c18
      subst c18
      have H1 : (spec_l13Guess.l0 kj8 a0 a1 l2 l3 a4 y102 0 (wrap64 ((l2.length : Int) + (l3.length : Int))) l2 (l2.length : Int) 0) = some (r1, r2) := by rw [if_neg (show ¬ (false = true) by decide)] at H; exact H
      clear H
      have H := H1
      clear H1
      have H' := Aside0.mk H
      clear H
      go_wp2
      go_loopg [13, 54] kj8 (fun kq v13 v54 w' => ∃ (x13_2 : Int) (x54_2 : Int), v13 = .int .i64 x13_2 ∧ v54 = .int .i64 x54_2 ∧ Aside0 (spec_l13Guess.l0 kq a0 a1 l2 l3 a4 y102 x13_2 (wrap64 ((l2.length : Int) + (l3.length : Int))) l2 (l2.length : Int) x54_2 = some (r1, r2)) ∧ Aside0 (kq ≤ kj8) ∧ Aside0 (Kd.R (Kd.int .i64) 3 w' w.heap.size (fun _ => True) v103 y102) ∧ Aside0 (Below w.heap.size w w'))
      case atStart => exact ⟨(0), (0), (by first | rfl | (simp; done) | (simp [*]; done)), (by first | rfl | (simp; done) | (simp [*]; done)), H', ⟨Nat.le_refl _⟩, ⟨by (with_reducible repeat (first | apply Kd.R_alloc | apply Kd.R_drewN | apply Kd.R_drew)); exact HO_12.out⟩, ⟨by repeat (first | (with_reducible first | exact HB.out | apply below_alloc | apply pw_below_drewN | apply below_drew1) | exact HB.out)⟩⟩
      case round =>
        clear H'
        try clear c1
        try clear c2
        try clear p2
        try clear c3
        try clear p6
        try clear c7
        try clear c7b0
        try clear c7b1
        try clear c8
        try clear c8b0
        try clear c8b1
        try clear c12
        try clear c12b0
        try clear c12b1
        try clear c13
        try clear c13b0
        try clear c14
        try clear c14b0
        try clear c14b1
        try clear c15
        try clear c15b0
        try clear c16
        try clear c16b0
        try clear c16b1
        try clear c16b2
        try clear c17
        try clear c17b0
        try clear c18
        try clear p2
        try clear p6
        obtain ⟨x13_2, x54_2, rfl, rfl, HA, HK2, HO_12, HB⟩ := hrel
        cases gk with
        | zero => exact absurd HA.out (by simp [spec_l13Guess.l0])
        | succ k2 =>
          have H := HA.out
          clear HA
          simp only [spec_l13Guess.l0] at H
          by_cases c19 : x54_2 < (l2.length : Int)
          · rw [if_pos c19] at H
            have c19b0 : decide (x54_2 < (l2.length : Int)) = true := decide_eq_true c19
            clear c19
            by_cases c20 : 0 ≤ x54_2
            rotate_left
            · rw [if_neg c20] at H
              exact absurd H (by simp)
            rw [if_pos c20] at H
            have c20b0 : decide (0 ≤ x54_2) = true := decide_eq_true c20
            clear c20
            by_cases c21 : x54_2 < (l2.length : Int)
            rotate_left
            · rw [if_neg c21] at H
              exact absurd H (by simp)
            rw [if_pos c21] at H
            have c21b0 : decide (x54_2 < (l2.length : Int)) = true := decide_eq_true c21
            clear c21
            have H' := Aside0.mk H
            clear H
            have p105 : 0 ≤ (x54_2 : Int) := of_decide_eq_true (by first | (with_reducible assumption) | assumption)
            have q105 : x54_2 < (l2.length : Int) := of_decide_eq_true (by first | (with_reducible assumption) | assumption)
            obtain ⟨ad105, e105, hx105_0⟩ := Kd.at_int HR2.out x54_2 p105 q105
            cases e105
            replace hx105_0 := (HB.out.cell (World.block_lt_of_cell? w _ hx105_0)).trans hx105_0
            replace p105 := eq_true p105
            replace q105 := eq_true q105
            go_wp2
            go_roundg k2
            case measure => have := HJ8.out; have := HK2.out; omega
            case rel => exact ⟨(wrap64 (x13_2 + (rd l2 x54_2))), (wrap64 (x54_2 + 1)), (by first | rfl | (simp; done) | (simp [*]; done)), (by first | rfl | (simp; done) | (simp [*]; done)), H', ⟨by have := HJ8.out; have := HK2.out; omega⟩, ⟨by (with_reducible repeat (first | apply Kd.R_alloc | apply Kd.R_drewN | apply Kd.R_drew)); exact HO_12.out⟩, ⟨by repeat (first | (with_reducible first | exact HB.out | apply below_alloc | apply pw_below_drewN | apply below_drew1) | exact HB.out)⟩⟩
          rw [if_neg c19] at H
          have c19b0 : decide (x54_2 < (l2.length : Int)) = false := decide_eq_false c19
          clear c19
          have H' := Aside0.mk H
          clear H
          go_wp2
          go_loopg [13, 64] k2 (fun kq v13 v64 w' => ∃ (x13_3 : Int) (x64_3 : Int), v13 = .int .i64 x13_3 ∧ v64 = .int .i64 x64_3 ∧ Aside0 (spec_l13Guess.l1 kq a0 a1 l2 l3 a4 y102 x13_3 (wrap64 ((l2.length : Int) + (l3.length : Int))) l3 (l3.length : Int) x64_3 = some (r1, r2)) ∧ Aside0 (kq ≤ k2) ∧ Aside0 (Kd.R (Kd.int .i64) 3 w' w.heap.size (fun _ => True) v103 y102) ∧ Aside0 (Below w.heap.size w w'))
          case atStart => exact ⟨(x13_2), (0), (by first | rfl | (simp; done) | (simp [*]; done)), (by first | rfl | (simp; done) | (simp [*]; done)), H', ⟨Nat.le_refl _⟩, ⟨by (with_reducible repeat (first | apply Kd.R_alloc | apply Kd.R_drewN | apply Kd.R_drew)); exact HO_12.out⟩, ⟨by repeat (first | (with_reducible first | exact HB.out | apply below_alloc | apply pw_below_drewN | apply below_drew1) | exact HB.out)⟩⟩
          case round =>
            clear H'
            try clear c1
            try clear p1
            try clear q1
            try clear hx1
            try clear c2
            try clear p2
            try clear c3
            try clear p6
            try clear c7
            try clear c7b0
            try clear c7b1
            try clear c8
            try clear c8b0
            try clear c8b1
            try clear p10
            try clear q10
            try clear hx10
            try clear c12
            try clear c12b0
            try clear c12b1
            try clear c13
            try clear c13b0
            try clear c14
            try clear c14b0
            try clear c14b1
            try clear c15
            try clear c15b0
            try clear c16
            try clear c16b0
            try clear c16b1
            try clear c16b2
            try clear c17
            try clear c17b0
            try clear c18
            try clear c19
            try clear c19b0
            try clear c20
            try clear c20b0
            try clear c21
            try clear c21b0
            try clear hx105_0
            try clear p105
            try clear p2
            try clear p6
            try clear q105
            obtain ⟨x13_3, x64_3, rfl, rfl, HA, HK3, HO_12, HB⟩ := hrel
            cases gk with
            | zero => exact absurd HA.out (by simp [spec_l13Guess.l1])
            | succ k3 =>
              have H := HA.out
              clear HA
              simp only [spec_l13Guess.l1] at H
              by_cases c22 : x64_3 < (l3.length : Int)
              · rw [if_pos c22] at H
                have c22b0 : decide (x64_3 < (l3.length : Int)) = true := decide_eq_true c22
                clear c22
                by_cases c23 : 0 ≤ x64_3
                rotate_left
                · rw [if_neg c23] at H
                  exact absurd H (by simp)
                rw [if_pos c23] at H
                have c23b0 : decide (0 ≤ x64_3) = true := decide_eq_true c23
                clear c23
                by_cases c24 : x64_3 < (l3.length : Int)
                rotate_left
                · rw [if_neg c24] at H
                  exact absurd H (by simp)
                rw [if_pos c24] at H
                have c24b0 : decide (x64_3 < (l3.length : Int)) = true := decide_eq_true c24
                clear c24
                have H' := Aside0.mk H
                clear H
                have p106 : 0 ≤ (x64_3 : Int) := of_decide_eq_true (by first | (with_reducible assumption) | assumption)
                have q106 : x64_3 < (l3.length : Int) := of_decide_eq_true (by first | (with_reducible assumption) | assumption)
                obtain ⟨ad106, e106, hx106_0⟩ := Kd.at_int HR3.out x64_3 p106 q106
                cases e106
                replace hx106_0 := (HB.out.cell (World.block_lt_of_cell? w _ hx106_0)).trans hx106_0
                replace p106 := eq_true p106
                replace q106 := eq_true q106
                go_wp2
                go_roundg k3
                case measure => have := HJ8.out; have := HK2.out; have := HK3.out; omega
                case rel => exact ⟨(wrap64 (x13_3 + (rd l3 x64_3))), (wrap64 (x64_3 + 1)), (by first | rfl | (simp; done) | (simp [*]; done)), (by first | rfl | (simp; done) | (simp [*]; done)), H', ⟨by have := HJ8.out; have := HK2.out; have := HK3.out; omega⟩, ⟨by (with_reducible repeat (first | apply Kd.R_alloc | apply Kd.R_drewN | apply Kd.R_drew)); exact HO_12.out⟩, ⟨by repeat (first | (with_reducible first | exact HB.out | apply below_alloc | apply pw_below_drewN | apply below_drew1) | exact HB.out)⟩⟩
              rw [if_neg c22] at H
              have c22b0 : decide (x64_3 < (l3.length : Int)) = false := decide_eq_false c22
              clear c22
              have HC25 := Aside0.mk H
              clear H
              go_upto_if 73 with (fail)
              go_cut [19] (fun v19 wc => ∃ (kq : Nat) (x19_24 : Int), v19 = .int .i64 x19_24 ∧ Aside0 (spec_l13Guess.j3 kq a0 a1 l2 l3 a4 y102 x19_24 = some (r1, r2)) ∧ Aside0 (kq ≤ k3) ∧ Aside0 (Kd.R (Kd.int .i64) 3 wc w.heap.size (fun _ => True) v103 y102) ∧ Aside0 (Below w.heap.size w wc))
              case first =>
                have H := HC25.out
                clear HC25
                by_cases c26 : (wrap64 ((l2.length : Int) + (l3.length : Int))) > 0
                rotate_left
                · rw [if_neg c26] at H
                  have c26b0 : decide (0 < (wrap64 ((l2.length : Int) + (l3.length : Int)))) = false := decide_eq_false c26
                  clear c26
                  (first | rw [c26b0] | (simp only [i64_w, i32_w]; rw [c26b0]) | skip)
                  have H' := Aside0.mk H
                  clear H
                  go_wp2
                  go_meet
                  case rel => exact ⟨_, (128), (by first | rfl | (simp; done) | (simp [*]; done)), H', ⟨by have := HJ8.out; have := HK2.out; have := HK3.out; first | omega | exact Nat.le_refl _⟩, ⟨by (with_reducible repeat (first | apply Kd.R_alloc | apply Kd.R_drewN | apply Kd.R_drew)); exact HO_12.out⟩, ⟨by repeat (first | (with_reducible first | exact HB.out | apply below_alloc | apply pw_below_drewN | apply below_drew1) | exact HB.out)⟩⟩
                rw [if_pos c26] at H
                have c26b0 : decide (0 < (wrap64 ((l2.length : Int) + (l3.length : Int)))) = true := decide_eq_true c26
                clear c26
                (first | rw [c26b0] | (simp only [i64_w, i32_w]; rw [c26b0]) | skip)
                by_cases c27 : (wrap64 ((l2.length : Int) + (l3.length : Int))) = 0
                · rw [if_pos c27] at H
                  exact absurd H (by simp)
                rw [if_neg c27] at H
                have c27b0 : ((wrap64 ((l2.length : Int) + (l3.length : Int))) == 0) = false := beq_eq_false_iff_ne.mpr c27
                have c27b1 : ((wrap64 ((l2.length : Int) + (l3.length : Int))) != 0) = true := bne_iff_ne.mpr c27
                have H' := Aside0.mk H
                clear H
                go_wp2
                go_meet
                case rel => exact ⟨_, (wrap64 (Int.tdiv (wrap64 (x13_3 + (wrap64 (Int.tdiv (wrap64 ((l2.length : Int) + (l3.length : Int))) 2)))) (wrap64 ((l2.length : Int) + (l3.length : Int))))), (by first | rfl | (simp; done) | (simp [*]; done)), H', ⟨by have := HJ8.out; have := HK2.out; have := HK3.out; first | omega | exact Nat.le_refl _⟩, ⟨by (with_reducible repeat (first | apply Kd.R_alloc | apply Kd.R_drewN | apply Kd.R_drew)); exact HO_12.out⟩, ⟨by repeat (first | (with_reducible first | exact HB.out | apply below_alloc | apply pw_below_drewN | apply below_drew1) | exact HB.out)⟩⟩
              case rest =>
                clear HC25
                try clear c1
                try clear p1
                try clear q1
                try clear hx1
                try clear c2
                try clear p2
                try clear c3
                try clear p6
                try clear c7
                try clear c7b0
                try clear c7b1
                try clear c8
                try clear c8b0
                try clear c8b1
                try clear p10
                try clear q10
                try clear hx10
                try clear c12
                try clear c12b0
                try clear c12b1
                try clear c13
                try clear c13b0
                try clear c14
                try clear c14b0
                try clear c14b1
                try clear c15
                try clear c15b0
                try clear c16
                try clear c16b0
                try clear c16b1
                try clear c16b2
                try clear c17
                try clear c17b0
                try clear c18
                try clear c19
                try clear c19b0
                try clear c20
                try clear c20b0
                try clear c21
                try clear c21b0
                try clear c22
                try clear c22b0
                try clear c23
                try clear c23b0
                try clear c24
                try clear c24b0
                try clear c26
                try clear c26b0
                try clear c27
                try clear c27b0
                try clear c27b1
                try clear hx105_0
                try clear hx106_0
                try clear p1
                try clear p10
                try clear p105
                try clear p106
                try clear p2
                try clear p6
                try clear q1
                try clear q10
                try clear q105
                try clear q106
                obtain ⟨kq, x19_24, rfl, HA, HJ24, HO_12, HB⟩ := hcut
                cases kq with
                | zero => exact absurd HA.out (by simp [spec_l13Guess.j3])
                | succ kj24 =>
                  have H := HA.out
                  clear HA
                  simp only [spec_l13Guess.j3] at H
                  have H' := Aside0.mk H
                  clear H
                  obtain ⟨Ao28, co28, eo28⟩ := Kd.R_slice HO_12.out
                  subst eo28
                  go_wp2
                  go_loopg [82] kj24 (fun kq v82 w' => ∃ (x12_5 : List Int) (x82_5 : Int), v82 = .int .i64 x82_5 ∧ Aside0 (spec_l13Guess.l2 kq a0 a1 l2 l3 a4 x12_5 x19_24 (y102.length : Int) x82_5 = some (r1, r2)) ∧ Aside0 (kq ≤ kj24) ∧ Aside0 (Kd.R (Kd.int .i64) 3 w' w.heap.size (fun _ => True) (.slice Ao28 y102.length co28) x12_5) ∧ Aside0 (Below w.heap.size w w'))
                  case atStart => exact ⟨(y102), (0), (by first | rfl | (simp; done) | (simp [*]; done)), H', ⟨Nat.le_refl _⟩, ⟨by (with_reducible repeat (first | apply Kd.R_alloc | apply Kd.R_drewN | apply Kd.R_drew)); exact HO_12.out⟩, ⟨by repeat (first | (with_reducible first | exact HB.out | apply below_alloc | apply pw_below_drewN | apply below_drew1) | exact HB.out)⟩⟩
                  case round =>
                    clear H'
                    try clear c1
                    try clear p1
                    try clear q1
                    try clear hx1
                    try clear c2
                    try clear p2
                    try clear c3
                    try clear p6
                    try clear c7
                    try clear c7b0
                    try clear c7b1
                    try clear c8
                    try clear c8b0
                    try clear c8b1
                    try clear p10
                    try clear q10
                    try clear hx10
                    try clear c12
                    try clear c12b0
                    try clear c12b1
                    try clear c13
                    try clear c13b0
                    try clear c14
                    try clear c14b0
                    try clear c14b1
                    try clear c15
                    try clear c15b0
                    try clear c16
                    try clear c16b0
                    try clear c16b1
                    try clear c16b2
                    try clear c17
                    try clear c17b0
                    try clear c18
                    try clear c19
                    try clear c19b0
                    try clear c20
                    try clear c20b0
                    try clear c21
                    try clear c21b0
                    try clear c22
                    try clear c22b0
                    try clear c23
                    try clear c23b0
                    try clear c24
                    try clear c24b0
                    try clear c26
                    try clear c26b0
                    try clear c27
                    try clear c27b0
                    try clear c27b1
                    try clear hx105_0
                    try clear hx106_0
                    try clear p1
                    try clear p10
                    try clear p105
                    try clear p106
                    try clear p2
                    try clear p6
                    try clear q1
                    try clear q10
                    try clear q105
                    try clear q106
                    obtain ⟨x12_5, x82_5, rfl, HA, HK5, HO_12, HB⟩ := hrel
                    have hl12_5 := (Kd.R_reads' HO_12.out).1
                    rw [hl12_5] at HO_12
                    (try simp only [hl12_5])
                    cases gk with
                    | zero => exact absurd HA.out (by simp [spec_l13Guess.l2])
                    | succ k5 =>
                      have H := HA.out
                      clear HA
                      simp only [spec_l13Guess.l2] at H
                      by_cases c29 : x82_5 < (y102.length : Int)
                      rotate_left
                      · rw [if_neg c29] at H
                        have c29b0 : decide (x82_5 < (y102.length : Int)) = false := decide_eq_false c29
                        (try simp only [hl12_5] at c29b0)
                        clear c29
                        simp only [Option.some.injEq, Prod.mk.injEq] at H
                        obtain ⟨rfl, rfl⟩ := H
                        go_wp2
                        go_ret2
                        exact ⟨_, by first | rfl | (simp [errW_none, errW_some] <;> rfl) | (simp only [← hji6]; first | rfl | (simp [errW_none, errW_some] <;> rfl)) | (simp [*, errW_none, errW_some] <;> rfl), by (with_reducible repeat (first | apply Kd.R_alloc | apply Kd.R_drewN | apply Kd.R_drew)); exact HO_12.out, by repeat (first | (with_reducible first | exact HB.out | apply below_alloc | apply pw_below_drewN | apply below_drew1) | exact HB.out)⟩
                      rw [if_pos c29] at H
                      have c29b0 : decide (x82_5 < (y102.length : Int)) = true := decide_eq_true c29
                      (try simp only [hl12_5] at c29b0)
                      clear c29
                      by_cases c30 : a1 = 0
                      · rw [if_pos c30] at H
                        exact absurd H (by simp)
                      rw [if_neg c30] at H
                      have c30b0 : (a1 == 0) = false := beq_eq_false_iff_ne.mpr c30
                      have c30b1 : (a1 != 0) = true := bne_iff_ne.mpr c30
                      by_cases c31 : a0 = 0
                      · rw [if_pos c31] at H
                        have c31b0 : (a0 == 0) = true := beq_iff_eq.mpr c31
                        have c31b1 : (a0 != 0) = false := bne_eq_false_iff_eq.mpr c31
                        clear c31
                        by_cases c32 : 0 ≤ x82_5
                        rotate_left
                        · rw [if_neg c32] at H
                          exact absurd H (by simp)
                        rw [if_pos c32] at H
                        have c32b0 : decide (0 ≤ x82_5) = true := decide_eq_true c32
                        clear c32
                        by_cases c33 : x82_5 < (x12_5.length : Int)
                        rotate_left
                        · rw [if_neg c33] at H
                          exact absurd H (by simp)
                        rw [if_pos c33] at H
                        have c33b0 : decide (x82_5 < (x12_5.length : Int)) = true := decide_eq_true c33
                        (try simp only [hl12_5] at c33b0)
                        clear c33
                        obtain ⟨y107, hy107⟩ : ∃ y_ : List Int, y_ = (x12_5.set (x82_5 : Int).toNat x19_24) := ⟨_, rfl⟩
                        replace H : (spec_l13Guess.l2 k5 a0 a1 l2 l3 a4 y107 x19_24 (y102.length : Int) (wrap64 (x82_5 + 1))) = some (r1, r2) := by first | (rw [hy107]; with_reducible exact H) | (have H2_ := (Option.bind_some _ _).symm.trans H; rw [hy107]; with_reducible exact H2_) | (have H2_ := (Option.bind_some _ _).symm.trans H; with_reducible exact H2_) | with_reducible exact H | (rw [hy107]; exact H) | exact H
                        have Ny107 := Aside0.mk hy107
                        clear hy107
                        have H' := Aside0.mk H
                        clear H
                        have p34 : 0 ≤ (x82_5 : Int) := of_decide_eq_true (by first | (with_reducible assumption) | assumption)
                        have q34 : (x82_5 : Int) < ((x12_5.length : Int) : Int) := of_decide_eq_true (by first | (with_reducible assumption) | assumption)
                        obtain ⟨go34, co34, eo34, gb34, gl34, cl34, HG34⟩ := Kd.R_form HO_12.out (by omega)
                        (first | cases eo34 | (injection eo34 with ea_ en_ ec_; (first | subst ea_ | (injection ea_ with ea_; subst ea_)); subst ec_; clear en_))
                        have GB34 := Aside0.mk gb34
                        have GG34 := Aside0.mk HG34
                        clear gb34 gl34 HG34
                        obtain ⟨hx34_0, hf34_0⟩ := Kd.R_celln 0 HO_12.out (x82_5 : Int) p34 q34
                        replace p34 := eq_true p34
                        replace q34 := eq_true q34
                        have HP35 := Kd.R_putg HO_12.out (x82_5 : Int) x19_24
                        go_wp2_with (first | ((with_reducible refine gate_store (t := 3) (p := 112) rfl ?_); refine store_event (t := 3) (p := 112) (v := ?vo_w36) (w1 := (wr.setCell ⟨go34, (x82_5 : Int).toNat, none⟩ (.int .i64 x19_24))) ?hg ?ho ?hn ?hr ?_; (case ho => rfl); (case hg => rfl); (case hn => rfl); (case hr => first | (go_simp; done) | (go_simp; rfl)); intro w36 hw; have hg : wr.grownBy w36 (some go34) := (by rw [hw]; exact HP35.2); have hp_ : Kd.R (Kd.int .i64) 3 w36 w.heap.size (fun _ => True) (.slice (some ⟨go34, 0, none⟩) x12_5.length co28) y107 := (by rw [hw, Ny107.out]; exact HP35.1); clear HP35; have n0_ := Aside0.mk (hp_); have n1_ := Aside0.mk ((by rw [hw]; exact below_set (HB.out) GB34.out : Below w.heap.size w w36)); clear HO_12; clear HB; have HO_12 := n0_; have HB := n1_; clear n0_ n1_; clear hg hw hp_))
                        (try simp only [← hl12_5])
                        go_roundg k5
                        case measure => have := HJ8.out; have := HK2.out; have := HK3.out; have := HJ24.out; have := HK5.out; omega
                        case rel => exact ⟨(y107), (wrap64 (x82_5 + 1)), (by first | rfl | (simp; done) | (simp [*]; done)), H', ⟨by have := HJ8.out; have := HK2.out; have := HK3.out; have := HJ24.out; have := HK5.out; omega⟩, ⟨by (try simp only [hl12_5]); (with_reducible repeat (first | apply Kd.R_alloc | apply Kd.R_drewN | apply Kd.R_drew)); exact HO_12.out⟩, ⟨by repeat (first | (with_reducible first | exact HB.out | apply below_alloc | apply pw_below_drewN | apply below_drew1) | exact HB.out)⟩⟩
                      rw [if_neg c31] at H
                      have c31b0 : (a0 == 0) = false := beq_eq_false_iff_ne.mpr c31
                      have c31b1 : (a0 != 0) = true := bne_iff_ne.mpr c31
                      by_cases c37 : a0 = 1
                      · rw [if_pos c37] at H
                        have c37b0 : (a0 == 1) = true := beq_iff_eq.mpr c37
                        have c37b1 : (a0 != 1) = false := bne_eq_false_iff_eq.mpr c37
                        clear c37
                        obtain ⟨ji38, hji38⟩ : ∃ j_ : Int, (wrap64 (Int.tdiv x82_5 a1)) = j_ := ⟨_, rfl⟩
                        replace H : (if 0 ≤ (ji38) then (if (ji38) < (l2.length : Int) then (if 0 ≤ x82_5 then (if x82_5 < (x12_5.length : Int) then (spec_l13Guess.l2 k5 a0 a1 l2 l3 a4 (x12_5.set (x82_5 : Int).toNat (rd l2 (ji38))) x19_24 (y102.length : Int) (wrap64 (x82_5 + 1))) else (none)) else (none)) else (none)) else (none)) = some (r1, r2) := by first | (rw [hji38] at H; exact H) | (simp only [hji38] at H ⊢; exact H)
                        have hji38w : (IntKind.i64.wrap (Int.tdiv x82_5 a1)) = ji38 := (i64_w _).trans hji38
                        by_cases c39 : 0 ≤ (ji38)
                        rotate_left
                        · rw [if_neg c39] at H
                          exact absurd H (by simp)
                        rw [if_pos c39] at H
                        have c39b0 : decide (0 ≤ (ji38)) = true := decide_eq_true c39
                        clear c39
                        by_cases c40 : (ji38) < (l2.length : Int)
                        rotate_left
                        · rw [if_neg c40] at H
                          exact absurd H (by simp)
                        rw [if_pos c40] at H
                        have c40b0 : decide ((ji38) < (l2.length : Int)) = true := decide_eq_true c40
                        (try simp only [hl12_5] at c40b0)
                        clear c40
                        by_cases c41 : 0 ≤ x82_5
                        rotate_left
                        · rw [if_neg c41] at H
                          exact absurd H (by simp)
                        rw [if_pos c41] at H
                        have c41b0 : decide (0 ≤ x82_5) = true := decide_eq_true c41
                        clear c41
                        by_cases c42 : x82_5 < (x12_5.length : Int)
                        rotate_left
                        · rw [if_neg c42] at H
                          exact absurd H (by simp)
                        rw [if_pos c42] at H
                        have c42b0 : decide (x82_5 < (x12_5.length : Int)) = true := decide_eq_true c42
                        (try simp only [hl12_5] at c42b0)
                        clear c42
                        obtain ⟨y109, hy109⟩ : ∃ y_ : List Int, y_ = (x12_5.set (x82_5 : Int).toNat (rd l2 (ji38))) := ⟨_, rfl⟩
                        replace H : (spec_l13Guess.l2 k5 a0 a1 l2 l3 a4 y109 x19_24 (y102.length : Int) (wrap64 (x82_5 + 1))) = some (r1, r2) := by first | (rw [hy109]; with_reducible exact H) | (have H2_ := (Option.bind_some _ _).symm.trans H; rw [hy109]; with_reducible exact H2_) | (have H2_ := (Option.bind_some _ _).symm.trans H; with_reducible exact H2_) | with_reducible exact H | (rw [hy109]; exact H) | exact H
                        have Ny109 := Aside0.mk hy109
                        clear hy109
                        have H' := Aside0.mk H
                        clear H
                        have p108 : 0 ≤ ((ji38) : Int) := of_decide_eq_true (by first | (with_reducible assumption) | assumption)
                        have q108 : (ji38) < (l2.length : Int) := of_decide_eq_true (by first | (with_reducible assumption) | assumption)
                        obtain ⟨ad108, e108, hx108_0⟩ := Kd.at_int HR2.out (ji38) p108 q108
                        cases e108
                        replace hx108_0 := (HB.out.cell (World.block_lt_of_cell? w _ hx108_0)).trans hx108_0
                        replace p108 := eq_true p108
                        replace q108 := eq_true q108
                        have p43 : 0 ≤ (x82_5 : Int) := of_decide_eq_true (by first | (with_reducible assumption) | assumption)
                        have q43 : (x82_5 : Int) < ((x12_5.length : Int) : Int) := of_decide_eq_true (by first | (with_reducible assumption) | assumption)
                        obtain ⟨go43, co43, eo43, gb43, gl43, cl43, HG43⟩ := Kd.R_form HO_12.out (by omega)
                        (first | cases eo43 | (injection eo43 with ea_ en_ ec_; (first | subst ea_ | (injection ea_ with ea_; subst ea_)); subst ec_; clear en_))
                        have GB43 := Aside0.mk gb43
                        have GG43 := Aside0.mk HG43
                        clear gb43 gl43 HG43
                        obtain ⟨hx43_0, hf43_0⟩ := Kd.R_celln 0 HO_12.out (x82_5 : Int) p43 q43
                        replace p43 := eq_true p43
                        replace q43 := eq_true q43
                        have HP44 := Kd.R_putg HO_12.out (x82_5 : Int) (rd l2 (ji38))
                        go_wp2_with (first | ((with_reducible refine gate_store (t := 3) (p := 121) rfl ?_); refine store_event (t := 3) (p := 121) (v := ?vo_w45) (w1 := (wr.setCell ⟨go43, (x82_5 : Int).toNat, none⟩ (.int .i64 (rd l2 (ji38))))) ?hg ?ho ?hn ?hr ?_; (case ho => rfl); (case hg => rfl); (case hn => rfl); (case hr => first | (go_simp; done) | (go_simp; rfl)); intro w45 hw; have hg : wr.grownBy w45 (some go43) := (by rw [hw]; exact HP44.2); have hp_ : Kd.R (Kd.int .i64) 3 w45 w.heap.size (fun _ => True) (.slice (some ⟨go43, 0, none⟩) x12_5.length co28) y109 := (by rw [hw, Ny109.out]; exact HP44.1); clear HP44; have n0_ := Aside0.mk (hp_); have n1_ := Aside0.mk ((by rw [hw]; exact below_set (HB.out) GB43.out : Below w.heap.size w w45)); clear HO_12; clear HB; have HO_12 := n0_; have HB := n1_; clear n0_ n1_; clear hg hw hp_))
                        (try simp only [← hl12_5])
                        go_roundg k5
                        case measure => have := HJ8.out; have := HK2.out; have := HK3.out; have := HJ24.out; have := HK5.out; omega
                        case rel => exact ⟨(y109), (wrap64 (x82_5 + 1)), (by first | rfl | (simp; done) | (simp [*]; done)), H', ⟨by have := HJ8.out; have := HK2.out; have := HK3.out; have := HJ24.out; have := HK5.out; omega⟩, ⟨by (try simp only [hl12_5]); (with_reducible repeat (first | apply Kd.R_alloc | apply Kd.R_drewN | apply Kd.R_drew)); exact HO_12.out⟩, ⟨by repeat (first | (with_reducible first | exact HB.out | apply below_alloc | apply pw_below_drewN | apply below_drew1) | exact HB.out)⟩⟩
                      rw [if_neg c37] at H
                      have c37b0 : (a0 == 1) = false := beq_eq_false_iff_ne.mpr c37
                      have c37b1 : (a0 != 1) = true := bne_iff_ne.mpr c37
                      by_cases c46 : a0 = 2
                      · rw [if_pos c46] at H
                        have c46b0 : (a0 == 2) = true := beq_iff_eq.mpr c46
                        have c46b1 : (a0 != 2) = false := bne_eq_false_iff_eq.mpr c46
                        clear c46
                        obtain ⟨ji47, hji47⟩ : ∃ j_ : Int, (Int.tmod x82_5 a1) = j_ := ⟨_, rfl⟩
                        replace H : (if 0 ≤ (ji47) then (if (ji47) < (l3.length : Int) then (if 0 ≤ x82_5 then (if x82_5 < (x12_5.length : Int) then (spec_l13Guess.l2 k5 a0 a1 l2 l3 a4 (x12_5.set (x82_5 : Int).toNat (rd l3 (ji47))) x19_24 (y102.length : Int) (wrap64 (x82_5 + 1))) else (none)) else (none)) else (none)) else (none)) = some (r1, r2) := by first | (rw [hji47] at H; exact H) | (simp only [hji47] at H ⊢; exact H)
                        by_cases c48 : 0 ≤ (ji47)
                        rotate_left
                        · rw [if_neg c48] at H
                          exact absurd H (by simp)
                        rw [if_pos c48] at H
                        have c48b0 : decide (0 ≤ (ji47)) = true := decide_eq_true c48
                        clear c48
                        by_cases c49 : (ji47) < (l3.length : Int)
                        rotate_left
                        · rw [if_neg c49] at H
                          exact absurd H (by simp)
                        rw [if_pos c49] at H
                        have c49b0 : decide ((ji47) < (l3.length : Int)) = true := decide_eq_true c49
                        (try simp only [hl12_5] at c49b0)
                        clear c49
                        by_cases c50 : 0 ≤ x82_5
                        rotate_left
                        · rw [if_neg c50] at H
                          exact absurd H (by simp)
                        rw [if_pos c50] at H
                        have c50b0 : decide (0 ≤ x82_5) = true := decide_eq_true c50
                        clear c50
                        by_cases c51 : x82_5 < (x12_5.length : Int)
                        rotate_left
                        · rw [if_neg c51] at H
                          exact absurd H (by simp)
                        rw [if_pos c51] at H
                        have c51b0 : decide (x82_5 < (x12_5.length : Int)) = true := decide_eq_true c51
                        (try simp only [hl12_5] at c51b0)
                        clear c51
                        obtain ⟨y111, hy111⟩ : ∃ y_ : List Int, y_ = (x12_5.set (x82_5 : Int).toNat (rd l3 (ji47))) := ⟨_, rfl⟩
                        replace H : (spec_l13Guess.l2 k5 a0 a1 l2 l3 a4 y111 x19_24 (y102.length : Int) (wrap64 (x82_5 + 1))) = some (r1, r2) := by first | (rw [hy111]; with_reducible exact H) | (have H2_ := (Option.bind_some _ _).symm.trans H; rw [hy111]; with_reducible exact H2_) | (have H2_ := (Option.bind_some _ _).symm.trans H; with_reducible exact H2_) | with_reducible exact H | (rw [hy111]; exact H) | exact H
                        have Ny111 := Aside0.mk hy111
                        clear hy111
                        have H' := Aside0.mk H
                        clear H
                        have p110 : 0 ≤ ((ji47) : Int) := of_decide_eq_true (by first | (with_reducible assumption) | assumption)
                        have q110 : (ji47) < (l3.length : Int) := of_decide_eq_true (by first | (with_reducible assumption) | assumption)
                        obtain ⟨ad110, e110, hx110_0⟩ := Kd.at_int HR3.out (ji47) p110 q110
                        cases e110
                        replace hx110_0 := (HB.out.cell (World.block_lt_of_cell? w _ hx110_0)).trans hx110_0
                        replace p110 := eq_true p110
                        replace q110 := eq_true q110
                        have p52 : 0 ≤ (x82_5 : Int) := of_decide_eq_true (by first | (with_reducible assumption) | assumption)
                        have q52 : (x82_5 : Int) < ((x12_5.length : Int) : Int) := of_decide_eq_true (by first | (with_reducible assumption) | assumption)
                        obtain ⟨go52, co52, eo52, gb52, gl52, cl52, HG52⟩ := Kd.R_form HO_12.out (by omega)
                        (first | cases eo52 | (injection eo52 with ea_ en_ ec_; (first | subst ea_ | (injection ea_ with ea_; subst ea_)); subst ec_; clear en_))
                        have GB52 := Aside0.mk gb52
                        have GG52 := Aside0.mk HG52
                        clear gb52 gl52 HG52
                        obtain ⟨hx52_0, hf52_0⟩ := Kd.R_celln 0 HO_12.out (x82_5 : Int) p52 q52
                        replace p52 := eq_true p52
                        replace q52 := eq_true q52
                        have HP53 := Kd.R_putg HO_12.out (x82_5 : Int) (rd l3 (ji47))
                        go_wp2_with (first | ((with_reducible refine gate_store (t := 3) (p := 130) rfl ?_); refine store_event (t := 3) (p := 130) (v := ?vo_w54) (w1 := (wr.setCell ⟨go52, (x82_5 : Int).toNat, none⟩ (.int .i64 (rd l3 (ji47))))) ?hg ?ho ?hn ?hr ?_; (case ho => rfl); (case hg => rfl); (case hn => rfl); (case hr => first | (go_simp; done) | (go_simp; rfl)); intro w54 hw; have hg : wr.grownBy w54 (some go52) := (by rw [hw]; exact HP53.2); have hp_ : Kd.R (Kd.int .i64) 3 w54 w.heap.size (fun _ => True) (.slice (some ⟨go52, 0, none⟩) x12_5.length co28) y111 := (by rw [hw, Ny111.out]; exact HP53.1); clear HP53; have n0_ := Aside0.mk (hp_); have n1_ := Aside0.mk ((by rw [hw]; exact below_set (HB.out) GB52.out : Below w.heap.size w w54)); clear HO_12; clear HB; have HO_12 := n0_; have HB := n1_; clear n0_ n1_; clear hg hw hp_))
                        (try simp only [← hl12_5])
                        go_roundg k5
                        case measure => have := HJ8.out; have := HK2.out; have := HK3.out; have := HJ24.out; have := HK5.out; omega
                        case rel => exact ⟨(y111), (wrap64 (x82_5 + 1)), (by first | rfl | (simp; done) | (simp [*]; done)), H', ⟨by have := HJ8.out; have := HK2.out; have := HK3.out; have := HJ24.out; have := HK5.out; omega⟩, ⟨by (try simp only [hl12_5]); (with_reducible repeat (first | apply Kd.R_alloc | apply Kd.R_drewN | apply Kd.R_drew)); exact HO_12.out⟩, ⟨by repeat (first | (with_reducible first | exact HB.out | apply below_alloc | apply pw_below_drewN | apply below_drew1) | exact HB.out)⟩⟩
                      rw [if_neg c46] at H
                      have c46b0 : (a0 == 2) = false := beq_eq_false_iff_ne.mpr c46
                      have c46b1 : (a0 != 2) = true := bne_iff_ne.mpr c46
                      obtain ⟨ji55, hji55⟩ : ∃ j_ : Int, (wrap64 (Int.tdiv x82_5 a1)) = j_ := ⟨_, rfl⟩
                      replace H : (if 0 ≤ (ji55) then (if (ji55) < (l2.length : Int) then (if 0 ≤ (Int.tmod x82_5 a1) then (if (Int.tmod x82_5 a1) < (l3.length : Int) then ((spec_l7Clip.f (wrap64 ((wrap64 ((rd l2 (ji55)) + (rd l3 (Int.tmod x82_5 a1)))) - a4))).bind fun t114 => (if 0 ≤ x82_5 then (if x82_5 < (x12_5.length : Int) then (spec_l13Guess.l2 k5 a0 a1 l2 l3 a4 (x12_5.set (x82_5 : Int).toNat t114) x19_24 (y102.length : Int) (wrap64 (x82_5 + 1))) else (none)) else (none))) else (none)) else (none)) else (none)) else (none)) = some (r1, r2) := by first | (rw [hji55] at H; exact H) | (simp only [hji55] at H ⊢; exact H)
                      have hji55w : (IntKind.i64.wrap (Int.tdiv x82_5 a1)) = ji55 := (i64_w _).trans hji55
                      by_cases c56 : 0 ≤ (ji55)
                      rotate_left
                      · rw [if_neg c56] at H
                        exact absurd H (by simp)
                      rw [if_pos c56] at H
                      have c56b0 : decide (0 ≤ (ji55)) = true := decide_eq_true c56
                      clear c56
                      by_cases c57 : (ji55) < (l2.length : Int)
                      rotate_left
                      · rw [if_neg c57] at H
                        exact absurd H (by simp)
                      rw [if_pos c57] at H
                      have c57b0 : decide ((ji55) < (l2.length : Int)) = true := decide_eq_true c57
                      (try simp only [hl12_5] at c57b0)
                      clear c57
                      obtain ⟨ji58, hji58⟩ : ∃ j_ : Int, (Int.tmod x82_5 a1) = j_ := ⟨_, rfl⟩
                      replace H : (if 0 ≤ (ji58) then (if (ji58) < (l3.length : Int) then ((spec_l7Clip.f (wrap64 ((wrap64 ((rd l2 (ji55)) + (rd l3 (ji58)))) - a4))).bind fun t114 => (if 0 ≤ x82_5 then (if x82_5 < (x12_5.length : Int) then (spec_l13Guess.l2 k5 a0 a1 l2 l3 a4 (x12_5.set (x82_5 : Int).toNat t114) x19_24 (y102.length : Int) (wrap64 (x82_5 + 1))) else (none)) else (none))) else (none)) else (none)) = some (r1, r2) := by first | (rw [hji58] at H; exact H) | (simp only [hji58] at H ⊢; exact H)
                      by_cases c59 : 0 ≤ (ji58)
                      rotate_left
                      · rw [if_neg c59] at H
                        exact absurd H (by simp)
                      rw [if_pos c59] at H
                      have c59b0 : decide (0 ≤ (ji58)) = true := decide_eq_true c59
                      clear c59
                      by_cases c60 : (ji58) < (l3.length : Int)
                      rotate_left
                      · rw [if_neg c60] at H
                        exact absurd H (by simp)
                      rw [if_pos c60] at H
                      have c60b0 : decide ((ji58) < (l3.length : Int)) = true := decide_eq_true c60
                      (try simp only [hl12_5] at c60b0)
                      clear c60
                      replace H := Option.bind_eq_some_iff.mp H
                      obtain ⟨t114, A610, H⟩ := H
                      replace H : (if 0 ≤ x82_5 then (if x82_5 < (x12_5.length : Int) then (spec_l13Guess.l2 k5 a0 a1 l2 l3 a4 (x12_5.set (x82_5 : Int).toNat t114) x19_24 (y102.length : Int) (wrap64 (x82_5 + 1))) else (none)) else (none)) = some (r1, r2) := H
                      have A61 := Aside0.mk A610
                      clear A610
                      by_cases c62 : 0 ≤ x82_5
                      rotate_left
                      · rw [if_neg c62] at H
                        exact absurd H (by simp)
                      rw [if_pos c62] at H
                      have c62b0 : decide (0 ≤ x82_5) = true := decide_eq_true c62
                      clear c62
                      by_cases c63 : x82_5 < (x12_5.length : Int)
                      rotate_left
                      · rw [if_neg c63] at H
                        exact absurd H (by simp)
                      rw [if_pos c63] at H
                      have c63b0 : decide (x82_5 < (x12_5.length : Int)) = true := decide_eq_true c63
                      (try simp only [hl12_5] at c63b0)
                      clear c63
                      obtain ⟨y115, hy115⟩ : ∃ y_ : List Int, y_ = (x12_5.set (x82_5 : Int).toNat t114) := ⟨_, rfl⟩
                      replace H : (spec_l13Guess.l2 k5 a0 a1 l2 l3 a4 y115 x19_24 (y102.length : Int) (wrap64 (x82_5 + 1))) = some (r1, r2) := by first | (rw [hy115]; with_reducible exact H) | (have H2_ := (Option.bind_some _ _).symm.trans H; rw [hy115]; with_reducible exact H2_) | (have H2_ := (Option.bind_some _ _).symm.trans H; with_reducible exact H2_) | with_reducible exact H | (rw [hy115]; exact H) | exact H
                      have Ny115 := Aside0.mk hy115
                      clear hy115
                      have H' := Aside0.mk H
                      clear H
                      try go_wp2
                      have n0_ := Aside0.mk (Kd.R_drew HO_12.out)
                      have n1_ := Aside0.mk (below_drew1 HB.out)
                      clear HO_12
                      clear HB
                      have HO_12 := n0_
                      have HB := n1_
                      clear n0_ n1_
                      have p112 : 0 ≤ ((ji55) : Int) := of_decide_eq_true (by first | (with_reducible assumption) | assumption)
                      have q112 : (ji55) < (l2.length : Int) := of_decide_eq_true (by first | (with_reducible assumption) | assumption)
                      obtain ⟨ad112, e112, hx112_0⟩ := Kd.at_int HR2.out (ji55) p112 q112
                      have hw112_0 := hx112_0
                      cases e112
                      replace hx112_0 := (HB.out.cell (World.block_lt_of_cell? w _ hx112_0)).trans hx112_0
                      replace p112 := eq_true p112
                      replace q112 := eq_true q112
                      have p113 : 0 ≤ ((ji58) : Int) := of_decide_eq_true (by first | (with_reducible assumption) | assumption)
                      have q113 : (ji58) < (l3.length : Int) := of_decide_eq_true (by first | (with_reducible assumption) | assumption)
                      obtain ⟨ad113, e113, hx113_0⟩ := Kd.at_int HR3.out (ji58) p113 q113
                      have hw113_0 := hx113_0
                      cases e113
                      replace hx113_0 := (HB.out.cell (World.block_lt_of_cell? w _ hx113_0)).trans hx113_0
                      replace p113 := eq_true p113
                      replace q113 := eq_true q113
                      refine start_ (n := 16) (S := fun w' => w'.cell? (ad112.add ((ji55)).toNat) = some (.int .i64 (rd l2 (ji55))) ∧ w'.cell? (ad113.add ((ji58)).toNat) = some (.int .i64 (rd l3 (ji58)))) (ds := [15]) #[false, false, false, false, false, false, false, false, false, false, false, false, false, false, false, false] (by kernel_rfl) rfl rfl ⟨((HB.out.cell (World.block_lt_of_cell? w _ hw112_0)).trans hw112_0), ((HB.out.cell (World.block_lt_of_cell? w _ hw113_0)).trans hw113_0)⟩ (fun hHeld => ?_); refine with_tabW spec_l13Guess.tab25 spec_l13Guess.bits25 (fun HT_ HW_ => ?_)
                      generalize wr.drew = w65 at HO_12 HB hx112_0 hx113_0 hHeld ⊢
                      refine pure_ (i := 0) (N := some 92) (v := ?_) (a' := ?_) #[true, false, false, false, false, false, false, false, false, false, false, false, false, false, false, false] rfl rfl (any_of HT_.out (by kernel_rfl)) (fun _ _ _ h => h) (Or.inl ⟨by rfl, ?_⟩) ?_ ?_
                      rotate_left
                      · intro w'
                        go_simp
                        with_reducible rfl
                      rotate_left
                      · simp only [Act.put, List.setIfInBounds_toArray, List.set_cons_zero, List.set_cons_succ, i64_w, i32_w]
                        rfl
                      refine pure_ (i := 1) (N := some 93) (v := ?_) (a' := ?_) #[true, true, false, false, false, false, false, false, false, false, false, false, false, false, false, false] rfl rfl (any_of HT_.out (by kernel_rfl)) (fun _ _ _ h => h) (Or.inl ⟨by rfl, ?_⟩) ?_ ?_
                      rotate_left
                      · intro w'
                        go_simp
                        with_reducible rfl
                      rotate_left
                      · simp only [Act.put, List.setIfInBounds_toArray, List.set_cons_zero, List.set_cons_succ, i64_w, i32_w]
                        rfl
                      refine pure_ (i := 2) (N := some 94) (v := ?_) (a' := ?_) #[true, true, true, false, false, false, false, false, false, false, false, false, false, false, false, false] rfl rfl (any_of HT_.out (by kernel_rfl)) (fun _ _ _ h => h) (Or.inl ⟨by rfl, ?_⟩) ?_ ?_
                      rotate_left
                      · intro w'
                        go_simp
                        with_reducible rfl
                      rotate_left
                      · simp only [Act.put, List.setIfInBounds_toArray, List.set_cons_zero, List.set_cons_succ, i64_w, i32_w]
                        rfl
                      refine pure_ (i := 3) (N := some 95) (v := ?_) (a' := ?_) #[true, true, true, true, false, false, false, false, false, false, false, false, false, false, false, false] rfl rfl (any_of HT_.out (by kernel_rfl)) (fun _ _ _ h => h) (Or.inl ⟨by rfl, ?_⟩) ?_ ?_
                      rotate_left
                      · intro w'
                        go_simp
                        with_reducible rfl
                      rotate_left
                      · simp only [Act.put, List.setIfInBounds_toArray, List.set_cons_zero, List.set_cons_succ, i64_w, i32_w]
                        rfl
                      refine pure_ (i := 4) (N := some 96) (v := ?_) (a' := ?_) #[true, true, true, true, true, false, false, false, false, false, false, false, false, false, false, false] rfl rfl (any_of HT_.out (by kernel_rfl)) (fun _ _ _ h => h) (Or.inl ⟨by rfl, ?_⟩) ?_ ?_
                      rotate_left
                      · intro w'
                        go_simp
                        with_reducible rfl
                      rotate_left
                      · simp only [Act.put, List.setIfInBounds_toArray, List.set_cons_zero, List.set_cons_succ, i64_w, i32_w]
                        rfl
                      refine pure_ (i := 6) (N := some 98) (v := ?_) (a' := ?_) #[true, true, true, true, true, false, true, false, false, false, false, false, false, false, false, false] rfl rfl (any_of HT_.out (by kernel_rfl)) (fun _ _ _ h => h) (Or.inl ⟨by rfl, ?_⟩) ?_ ?_
                      rotate_left
                      · intro w'
                        go_simp
                        with_reducible rfl
                      rotate_left
                      · simp only [Act.put, List.setIfInBounds_toArray, List.set_cons_zero, List.set_cons_succ, i64_w, i32_w]
                        rfl
                      refine pure_ (i := 7) (N := some 99) (v := ?_) (a' := ?_) #[true, true, true, true, true, false, true, true, false, false, false, false, false, false, false, false] rfl rfl (any_of HT_.out (by kernel_rfl)) (fun _ _ _ h => h) (Or.inl ⟨by rfl, ?_⟩) ?_ ?_
                      rotate_left
                      · intro w'
                        go_simp
                        with_reducible rfl
                      rotate_left
                      · simp only [Act.put, List.setIfInBounds_toArray, List.set_cons_zero, List.set_cons_succ, i64_w, i32_w]
                        rfl
                      refine pure_ (i := 8) (N := some 100) (v := ?_) (a' := ?_) #[true, true, true, true, true, false, true, true, true, false, false, false, false, false, false, false] rfl rfl (any_of HT_.out (by kernel_rfl)) (fun _ _ _ h => h) (Or.inl ⟨by rfl, ?_⟩) ?_ ?_
                      rotate_left
                      · intro w'
                        go_simp
                        with_reducible rfl
                      rotate_left
                      · simp only [Act.put, List.setIfInBounds_toArray, List.set_cons_zero, List.set_cons_succ, i64_w, i32_w]
                        rfl
                      refine pure_ (i := 11) (N := some 103) (v := ?_) (a' := ?_) #[true, true, true, true, true, false, true, true, true, false, false, true, false, false, false, false] rfl rfl (any_of HT_.out (by kernel_rfl)) (fun _ _ _ h => h) (Or.inl ⟨by rfl, ?_⟩) ?_ ?_
                      rotate_left
                      · intro w'
                        go_simp
                        with_reducible rfl
                      rotate_left
                      · simp only [Act.put, List.setIfInBounds_toArray, List.set_cons_zero, List.set_cons_succ, i64_w, i32_w]
                        rfl
                      refine take_ (i := 5) (N := some 97) (v := ?_) (a' := ?_) #[true, true, true, true, true, true, true, true, true, false, false, true, false, false, false, false] rfl rfl (take_ofW HT_.out HW_.out (by kernel_rfl)) (fun _ _ _ h => h) (Or.inl ⟨by rfl, ?_⟩) hHeld ?_ ?_
                      rotate_left
                      · rintro w' ⟨s0, s1⟩
                        go_simp
                        with_reducible rfl
                      rotate_left
                      · simp only [Act.put, List.setIfInBounds_toArray, List.set_cons_zero, List.set_cons_succ, i64_w, i32_w]
                        rfl
                      refine take_ (i := 9) (N := some 101) (v := ?_) (a' := ?_) #[true, true, true, true, true, true, true, true, true, true, false, true, false, false, false, false] rfl rfl (take_ofW HT_.out HW_.out (by kernel_rfl)) (fun _ _ _ h => h) (Or.inl ⟨by rfl, ?_⟩) hHeld ?_ ?_
                      rotate_left
                      · rintro w' ⟨s0, s1⟩
                        go_simp
                        with_reducible rfl
                      rotate_left
                      · simp only [Act.put, List.setIfInBounds_toArray, List.set_cons_zero, List.set_cons_succ, i64_w, i32_w]
                        rfl
                      refine pure_ (i := 10) (N := some 102) (v := ?_) (a' := ?_) #[true, true, true, true, true, true, true, true, true, true, true, true, false, false, false, false] rfl rfl (any_of HT_.out (by kernel_rfl)) (fun _ _ _ h => h) (Or.inl ⟨by rfl, ?_⟩) ?_ ?_
                      rotate_left
                      · intro w'
                        go_simp
                        with_reducible rfl
                      rotate_left
                      · simp only [Act.put, List.setIfInBounds_toArray, List.set_cons_zero, List.set_cons_succ, i64_w, i32_w]
                        rfl
                      refine pure_ (i := 12) (N := some 104) (v := ?_) (a' := ?_) #[true, true, true, true, true, true, true, true, true, true, true, true, true, false, false, false] rfl rfl (any_of HT_.out (by kernel_rfl)) (fun _ _ _ h => h) (Or.inl ⟨by rfl, ?_⟩) ?_ ?_
                      rotate_left
                      · intro w'
                        go_simp
                        with_reducible rfl
                      rotate_left
                      · simp only [Act.put, List.setIfInBounds_toArray, List.set_cons_zero, List.set_cons_succ, i64_w, i32_w]
                        rfl
                      refine one_ (i := 13) (N := some 105) #[true, true, true, true, true, true, true, true, true, true, true, true, true, true, false, false] rfl rfl (one_of HT_.out (by kernel_rfl)) (by decide) (fun K hK => ?_)
                      refine goes_ Try.func116 (by kernel_rfl) rfl #[.int .i64 (wrap64 ((wrap64 ((rd l2 (ji55)) + (rd l3 (ji58)))) - a4))] (by rfl) rfl rfl (by (try simp only [List.map_toArray, List.map_cons, List.map_nil]); first | done | (simp only [hji55, hji58]; rfl) | rfl | (simp only [List.length_drop, List.length_take]; rfl)) ?_
                      with_reducible refine (spec_l7Clip.calls (wrap64 ((wrap64 ((rd l2 (ji55)) + (rd l3 (ji58)))) - a4)) t114 _ A61.out).mono ?_
                      rintro e w' ⟨rfl, ⟨nd, rfl⟩⟩
                      refine ⟨_, rfl, ?_⟩
                      have p64 : 0 ≤ (x82_5 : Int) := of_decide_eq_true (by first | (with_reducible assumption) | assumption)
                      have q64 : (x82_5 : Int) < ((x12_5.length : Int) : Int) := of_decide_eq_true (by first | (with_reducible assumption) | assumption)
                      obtain ⟨go64, co64, eo64, gb64, gl64, cl64, HG64⟩ := Kd.R_form HO_12.out (by omega)
                      (first | cases eo64 | (injection eo64 with ea_ en_ ec_; (first | subst ea_ | (injection ea_ with ea_; subst ea_)); subst ec_; clear en_))
                      have GB64 := Aside0.mk gb64
                      have GG64 := Aside0.mk HG64
                      clear gb64 gl64 HG64
                      obtain ⟨hx64_0, hf64_0⟩ := Kd.R_celln 0 HO_12.out (x82_5 : Int) p64 q64
                      replace p64 := eq_true p64
                      replace q64 := eq_true q64
                      have HP66 := Kd.R_putn HO_12.out (x82_5 : Int) t114
                      rw [← Ny115.out] at HP66
                      have HQ66 := Aside0.mk HP66
                      clear HP66
                      refine hK.out _ _ ⟨((HB.out.cell (World.block_lt_of_cell? w _ hw112_0)).trans hw112_0), ((HB.out.cell (World.block_lt_of_cell? w _ hw113_0)).trans hw113_0)⟩ (fun hHeld => ?_)
                      clear hK K
                      refine norm_ (a' := ?_) ?_ ?_
                      rotate_left
                      · show Act.put _ (some 105) _ = _
                        simp only [Act.put, List.setIfInBounds_toArray, List.set_cons_zero, List.set_cons_succ, i64_w, i32_w]
                        rfl
                      refine pure_ (i := 14) (N := some 106) (v := ?_) (a' := ?_) #[true, true, true, true, true, true, true, true, true, true, true, true, true, true, true, false] rfl rfl (any_of HT_.out (by kernel_rfl)) (fun _ _ _ h => h) (Or.inl ⟨by rfl, ?_⟩) ?_ ?_
                      rotate_left
                      · intro w'
                        go_simp
                        with_reducible rfl
                      rotate_left
                      · simp only [Act.put, List.setIfInBounds_toArray, List.set_cons_zero, List.set_cons_succ, i64_w, i32_w]
                        rfl
                      refine last_ (i := 15) (N := none) #[true, true, true, true, true, true, true, true, true, true, true, true, true, true, true, true] rfl rfl (one_of HT_.out (by kernel_rfl)) (by decide) (fun K hK => ?_)
                      refine skip_ (w1 := ?_) (by rfl) rfl ?_ ?_
                      rotate_left
                      · go_simp
                        rfl
                      refine hK.out _ _ ?_
                      clear hK K
                      refine done_ (done_of HT_.out (by kernel_rfl)) ?_
                      try go_wp2
                      (try simp only [← hl12_5])
                      go_roundg k5
                      case measure => have := HJ8.out; have := HK2.out; have := HK3.out; have := HJ24.out; have := HK5.out; omega
                      case rel => exact ⟨(y115), (wrap64 (x82_5 + 1)), (by first | rfl | (simp; done) | (simp [*]; done)), H', ⟨by have := HJ8.out; have := HK2.out; have := HK3.out; have := HJ24.out; have := HK5.out; omega⟩, ⟨by (try simp only [hl12_5]); (with_reducible repeat (first | apply Kd.R_alloc | apply Kd.R_drewN | apply Kd.R_drew)); exact HQ66.out⟩, ⟨by repeat (first | (with_reducible first | exact HB.out | apply below_alloc | apply pw_below_drewN | apply below_drew1 | refine below_set ?_ GB64.out) | exact HB.out)⟩⟩

end Go.Proofs.Ytmnihpedokeggaa.PFnExactGuess

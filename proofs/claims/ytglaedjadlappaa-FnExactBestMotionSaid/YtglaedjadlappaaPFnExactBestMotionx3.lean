-- written by myprint.py (a program of this session's over the kit's print)
import Derived.Test.YtglaedjadlappaaPFnExactBestMotionx0
import Derived.Test.YtglaedjadlappaaPFnExactBestMotionx1
import Derived.Test.YtglaedjadlappaaPFnExactBestMotionx2
namespace Go.Proofs.Ytglaedjadlappaa.PFnExactBestMotion
open Go.RowKit Go.Proofs.YtglaedjadlappaaW.PrintWords Go.Proofs.YtglaedjadlappaaW.PrintLast Go.Proofs.YtglaedjadlappaaW.PrintMore
attribute [local go_sem] max2_int min2_int max_two min_two max_three min_three max_four min_four   -- for this text's walks alone
set_option linter.unusedVariables false
set_option linter.unusedSimpArgs false

/-! ### spec_l13Moved: function 150 -/
mutual
def spec_l13Moved.l0 : Nat → Int → Int → Int → Int → Int → List (List Int) → Int → Int → Int → Int → List Int → Option (List Int)
  | 0, _, _, _, _, _, _, _, _, _, _, _ => none
  | k + 1, x3, x9, x10, x11, x12, x13, x35, x36, x124000, x124001, x124002 => if x36 < x35 then (if 0 ≤ (wrap64 (x3 + 5)) then (if (wrap64 (x3 + 5) : Int).toNat ≤ 35184372088832 then ((some (List.replicate (wrap64 (x3 + 5) : Int).toNat 0 : List Int)).bind fun y127 => (spec_l13Moved.l1 k x3 x9 x10 x11 x12 x13 x36 y127 x35 x36 (y127.length : Int) 0 x124000 x124001 x124002)) else (none)) else (none)) else (if 0 ≤ (wrap64 (x3 * x3)) then (if (wrap64 (x3 * x3) : Int).toNat ≤ 35184372088832 then (spec_l13Moved.l3 k x3 x12 x13 (List.replicate (wrap64 (x3 * x3) : Int).toNat 0) 0) else (none)) else (none))
def spec_l13Moved.l1 : Nat → Int → Int → Int → Int → Int → List (List Int) → Int → List Int → Int → Int → Int → Int → Int → Int → List Int → Option (List Int)
  | 0, _, _, _, _, _, _, _, _, _, _, _, _, _, _, _ => none
  | k + 1, x3, x9, x10, x11, x12, x13, x14, x15, x35, x36, x43, x44, x124000, x124001, x124002 => if x44 < x43 then ((spec_l7At.f k x124000 x124001 x124002 (wrap64 ((wrap64 (x9 - 2)) + x44)) (wrap64 ((wrap64 (x10 - 2)) + x14))).bind fun t130 => (if 0 ≤ x44 then (if x44 < (x15.length : Int) then (spec_l13Moved.l1 k x3 x9 x10 x11 x12 x13 x14 (x15.set (x44 : Int).toNat t130) x35 x36 x43 (wrap64 (x44 + 1)) x124000 x124001 x124002) else (none)) else (none))) else (spec_l13Moved.l2 k x3 x9 x10 x11 x12 x13 x14 x15 0 x35 x36 x124000 x124001 x124002)
def spec_l13Moved.l2 : Nat → Int → Int → Int → Int → Int → List (List Int) → Int → List Int → Int → Int → Int → Int → Int → List Int → Option (List Int)
  | 0, _, _, _, _, _, _, _, _, _, _, _, _, _, _ => none
  | k + 1, x3, x9, x10, x11, x12, x13, x14, x15, x17, x35, x36, x124000, x124001, x124002 => if x17 < x3 then (if 0 ≤ x14 then (if x14 < (x13.length : Int) then ((spec_l13Quarter.f x15 (wrap64 (x17 + 2)) x11).bind fun t133 => (if (rd_L1 x13 x14).length < 17592186044416 then (spec_l13Moved.l2 k x3 x9 x10 x11 x12 (x13.set (x14 : Int).toNat ((rd_L1 x13 x14) ++ [t133])) x14 x15 (wrap64 (x17 + 1)) x35 x36 x124000 x124001 x124002) else (none))) else (none)) else (none)) else (spec_l13Moved.l0 k x3 x9 x10 x11 x12 x13 x35 (wrap64 (x36 + 1)) x124000 x124001 x124002)
def spec_l13Moved.l3 : Nat → Int → Int → List (List Int) → List Int → Int → Option (List Int)
  | 0, _, _, _, _, _ => none
  | k + 1, x3, x12, x13, x18, x19 => if x19 < x3 then (if 0 ≤ (wrap64 (x3 + 5)) then (if (wrap64 (x3 + 5) : Int).toNat ≤ 35184372088832 then ((some (List.replicate (wrap64 (x3 + 5) : Int).toNat 0 : List Int)).bind fun y141 => (spec_l13Moved.l4 k x3 x12 x13 x18 x19 y141 (y141.length : Int) 0)) else (none)) else (none)) else (some x18)
def spec_l13Moved.l4 : Nat → Int → Int → List (List Int) → List Int → Int → List Int → Int → Int → Option (List Int)
  | 0, _, _, _, _, _, _, _, _ => none
  | k + 1, x3, x12, x13, x18, x19, x20, x94, x95 => if x95 < x94 then (if 0 ≤ x95 then (if x95 < (x13.length : Int) then (if 0 ≤ x19 then (if x19 < ((rd_L1 x13 x95).length : Int) then (if x95 < (x20.length : Int) then (spec_l13Moved.l4 k x3 x12 x13 x18 x19 (x20.set (x95 : Int).toNat (rd (rd_L1 x13 x95) x19)) x94 (wrap64 (x95 + 1))) else (none)) else (none)) else (none)) else (none)) else (none)) else (spec_l13Moved.l5 k x3 x12 x13 x18 x19 x20 0)
def spec_l13Moved.l5 : Nat → Int → Int → List (List Int) → List Int → Int → List Int → Int → Option (List Int)
  | 0, _, _, _, _, _, _, _ => none
  | k + 1, x3, x12, x13, x18, x19, x20, x22 => if x22 < x3 then ((spec_l13Quarter.f x20 (wrap64 (x22 + 2)) x12).bind fun t147 => (if 0 ≤ (wrap64 ((wrap64 (x22 * x3)) + x19)) then (if (wrap64 ((wrap64 (x22 * x3)) + x19)) < (x18.length : Int) then (spec_l13Moved.l5 k x3 x12 x13 (x18.set ((wrap64 ((wrap64 (x22 * x3)) + x19)) : Int).toNat t147) x19 x20 (wrap64 (x22 + 1))) else (none)) else (none))) else (spec_l13Moved.l3 k x3 x12 x13 x18 (wrap64 (x19 + 1)))
end
def spec_l13Moved.f (k : Nat) (a0_0 : Int) (a0_1 : Int) (l0_2 : List Int) (a1 : Int) (a2 : Int) (a3 : Int) : Option (List Int) := if 0 ≤ (wrap64 (a3 + 5)) then (if (wrap64 (a3 + 5) : Int).toNat ≤ 11728124029610 then ((some (List.replicate (wrap64 (a3 + 5) : Int).toNat [] : List (List Int))).bind fun y124 => (spec_l13Moved.l0 k a3 (a1 / 4) (a2 / 4) (Go.bits .and .i64 a1 3) (Go.bits .and .i64 a2 3) y124 (y124.length : Int) 0 a0_0 a0_1 l0_2)) else (none)) else (none)
theorem spec_l13Moved.mono_l : ∀ k, (∀ y0 y1 y2 y3 y4 y5 y6 y7 y8 y9 y10, LeO (spec_l13Moved.l0 k y0 y1 y2 y3 y4 y5 y6 y7 y8 y9 y10) (spec_l13Moved.l0 (k + 1) y0 y1 y2 y3 y4 y5 y6 y7 y8 y9 y10)) ∧ (∀ y0 y1 y2 y3 y4 y5 y6 y7 y8 y9 y10 y11 y12 y13 y14, LeO (spec_l13Moved.l1 k y0 y1 y2 y3 y4 y5 y6 y7 y8 y9 y10 y11 y12 y13 y14) (spec_l13Moved.l1 (k + 1) y0 y1 y2 y3 y4 y5 y6 y7 y8 y9 y10 y11 y12 y13 y14)) ∧ (∀ y0 y1 y2 y3 y4 y5 y6 y7 y8 y9 y10 y11 y12 y13, LeO (spec_l13Moved.l2 k y0 y1 y2 y3 y4 y5 y6 y7 y8 y9 y10 y11 y12 y13) (spec_l13Moved.l2 (k + 1) y0 y1 y2 y3 y4 y5 y6 y7 y8 y9 y10 y11 y12 y13)) ∧ (∀ y0 y1 y2 y3 y4, LeO (spec_l13Moved.l3 k y0 y1 y2 y3 y4) (spec_l13Moved.l3 (k + 1) y0 y1 y2 y3 y4)) ∧ (∀ y0 y1 y2 y3 y4 y5 y6 y7, LeO (spec_l13Moved.l4 k y0 y1 y2 y3 y4 y5 y6 y7) (spec_l13Moved.l4 (k + 1) y0 y1 y2 y3 y4 y5 y6 y7)) ∧ (∀ y0 y1 y2 y3 y4 y5 y6, LeO (spec_l13Moved.l5 k y0 y1 y2 y3 y4 y5 y6) (spec_l13Moved.l5 (k + 1) y0 y1 y2 y3 y4 y5 y6))
  | 0 => ⟨fun _ _ _ _ _ _ _ _ _ _ _ r h => by simp [spec_l13Moved.l0] at h, fun _ _ _ _ _ _ _ _ _ _ _ _ _ _ _ r h => by simp [spec_l13Moved.l1] at h, fun _ _ _ _ _ _ _ _ _ _ _ _ _ _ r h => by simp [spec_l13Moved.l2] at h, fun _ _ _ _ _ r h => by simp [spec_l13Moved.l3] at h, fun _ _ _ _ _ _ _ _ r h => by simp [spec_l13Moved.l4] at h, fun _ _ _ _ _ _ _ r h => by simp [spec_l13Moved.l5] at h⟩
  | k + 1 => by
    obtain ⟨ih0, ih1, ih2, ih3, ih4, ih5⟩ := spec_l13Moved.mono_l k
    refine ⟨?_, ?_, ?_, ?_, ?_, ?_⟩
    · intro y0 y1 y2 y3 y4 y5 y6 y7 y8 y9 y10
      unfold spec_l13Moved.l0
      repeat' first
      | (with_reducible exact ih0 _ _ _ _ _ _ _ _ _ _ _)
      | (with_reducible exact ih1 _ _ _ _ _ _ _ _ _ _ _ _ _ _ _)
      | (with_reducible exact ih2 _ _ _ _ _ _ _ _ _ _ _ _ _ _)
      | (with_reducible exact ih3 _ _ _ _ _)
      | (with_reducible exact ih4 _ _ _ _ _ _ _ _)
      | (with_reducible exact ih5 _ _ _ _ _ _ _)
      | (with_reducible exact spec_l7At.mono _ _ _ _ _ _)
      | (with_reducible exact LeO.refl _)
      | (with_reducible exact LeO.none _)
      | (with_reducible refine LeO.ite ?_ ?_)
      | (with_reducible refine LeO.bind ?_ (fun _ => ?_))
      | exact ih0 _ _ _ _ _ _ _ _ _ _ _
      | exact ih1 _ _ _ _ _ _ _ _ _ _ _ _ _ _ _
      | exact ih2 _ _ _ _ _ _ _ _ _ _ _ _ _ _
      | exact ih3 _ _ _ _ _
      | exact ih4 _ _ _ _ _ _ _ _
      | exact ih5 _ _ _ _ _ _ _
      | exact spec_l7At.mono _ _ _ _ _ _
      | exact LeO.none _
      | refine LeO.ite ?_ ?_
      | refine LeO.bind ?_ (fun _ => ?_)
    · intro y0 y1 y2 y3 y4 y5 y6 y7 y8 y9 y10 y11 y12 y13 y14
      unfold spec_l13Moved.l1
      repeat' first
      | (with_reducible exact ih0 _ _ _ _ _ _ _ _ _ _ _)
      | (with_reducible exact ih1 _ _ _ _ _ _ _ _ _ _ _ _ _ _ _)
      | (with_reducible exact ih2 _ _ _ _ _ _ _ _ _ _ _ _ _ _)
      | (with_reducible exact ih3 _ _ _ _ _)
      | (with_reducible exact ih4 _ _ _ _ _ _ _ _)
      | (with_reducible exact ih5 _ _ _ _ _ _ _)
      | (with_reducible exact spec_l7At.mono _ _ _ _ _ _)
      | (with_reducible exact LeO.refl _)
      | (with_reducible exact LeO.none _)
      | (with_reducible refine LeO.ite ?_ ?_)
      | (with_reducible refine LeO.bind ?_ (fun _ => ?_))
      | exact ih0 _ _ _ _ _ _ _ _ _ _ _
      | exact ih1 _ _ _ _ _ _ _ _ _ _ _ _ _ _ _
      | exact ih2 _ _ _ _ _ _ _ _ _ _ _ _ _ _
      | exact ih3 _ _ _ _ _
      | exact ih4 _ _ _ _ _ _ _ _
      | exact ih5 _ _ _ _ _ _ _
      | exact spec_l7At.mono _ _ _ _ _ _
      | exact LeO.none _
      | refine LeO.ite ?_ ?_
      | refine LeO.bind ?_ (fun _ => ?_)
    · intro y0 y1 y2 y3 y4 y5 y6 y7 y8 y9 y10 y11 y12 y13
      unfold spec_l13Moved.l2
      repeat' first
      | (with_reducible exact ih0 _ _ _ _ _ _ _ _ _ _ _)
      | (with_reducible exact ih1 _ _ _ _ _ _ _ _ _ _ _ _ _ _ _)
      | (with_reducible exact ih2 _ _ _ _ _ _ _ _ _ _ _ _ _ _)
      | (with_reducible exact ih3 _ _ _ _ _)
      | (with_reducible exact ih4 _ _ _ _ _ _ _ _)
      | (with_reducible exact ih5 _ _ _ _ _ _ _)
      | (with_reducible exact spec_l7At.mono _ _ _ _ _ _)
      | (with_reducible exact LeO.refl _)
      | (with_reducible exact LeO.none _)
      | (with_reducible refine LeO.ite ?_ ?_)
      | (with_reducible refine LeO.bind ?_ (fun _ => ?_))
      | exact ih0 _ _ _ _ _ _ _ _ _ _ _
      | exact ih1 _ _ _ _ _ _ _ _ _ _ _ _ _ _ _
      | exact ih2 _ _ _ _ _ _ _ _ _ _ _ _ _ _
      | exact ih3 _ _ _ _ _
      | exact ih4 _ _ _ _ _ _ _ _
      | exact ih5 _ _ _ _ _ _ _
      | exact spec_l7At.mono _ _ _ _ _ _
      | exact LeO.none _
      | refine LeO.ite ?_ ?_
      | refine LeO.bind ?_ (fun _ => ?_)
    · intro y0 y1 y2 y3 y4
      unfold spec_l13Moved.l3
      repeat' first
      | (with_reducible exact ih0 _ _ _ _ _ _ _ _ _ _ _)
      | (with_reducible exact ih1 _ _ _ _ _ _ _ _ _ _ _ _ _ _ _)
      | (with_reducible exact ih2 _ _ _ _ _ _ _ _ _ _ _ _ _ _)
      | (with_reducible exact ih3 _ _ _ _ _)
      | (with_reducible exact ih4 _ _ _ _ _ _ _ _)
      | (with_reducible exact ih5 _ _ _ _ _ _ _)
      | (with_reducible exact spec_l7At.mono _ _ _ _ _ _)
      | (with_reducible exact LeO.refl _)
      | (with_reducible exact LeO.none _)
      | (with_reducible refine LeO.ite ?_ ?_)
      | (with_reducible refine LeO.bind ?_ (fun _ => ?_))
      | exact ih0 _ _ _ _ _ _ _ _ _ _ _
      | exact ih1 _ _ _ _ _ _ _ _ _ _ _ _ _ _ _
      | exact ih2 _ _ _ _ _ _ _ _ _ _ _ _ _ _
      | exact ih3 _ _ _ _ _
      | exact ih4 _ _ _ _ _ _ _ _
      | exact ih5 _ _ _ _ _ _ _
      | exact spec_l7At.mono _ _ _ _ _ _
      | exact LeO.none _
      | refine LeO.ite ?_ ?_
      | refine LeO.bind ?_ (fun _ => ?_)
    · intro y0 y1 y2 y3 y4 y5 y6 y7
      unfold spec_l13Moved.l4
      repeat' first
      | (with_reducible exact ih0 _ _ _ _ _ _ _ _ _ _ _)
      | (with_reducible exact ih1 _ _ _ _ _ _ _ _ _ _ _ _ _ _ _)
      | (with_reducible exact ih2 _ _ _ _ _ _ _ _ _ _ _ _ _ _)
      | (with_reducible exact ih3 _ _ _ _ _)
      | (with_reducible exact ih4 _ _ _ _ _ _ _ _)
      | (with_reducible exact ih5 _ _ _ _ _ _ _)
      | (with_reducible exact spec_l7At.mono _ _ _ _ _ _)
      | (with_reducible exact LeO.refl _)
      | (with_reducible exact LeO.none _)
      | (with_reducible refine LeO.ite ?_ ?_)
      | (with_reducible refine LeO.bind ?_ (fun _ => ?_))
      | exact ih0 _ _ _ _ _ _ _ _ _ _ _
      | exact ih1 _ _ _ _ _ _ _ _ _ _ _ _ _ _ _
      | exact ih2 _ _ _ _ _ _ _ _ _ _ _ _ _ _
      | exact ih3 _ _ _ _ _
      | exact ih4 _ _ _ _ _ _ _ _
      | exact ih5 _ _ _ _ _ _ _
      | exact spec_l7At.mono _ _ _ _ _ _
      | exact LeO.none _
      | refine LeO.ite ?_ ?_
      | refine LeO.bind ?_ (fun _ => ?_)
    · intro y0 y1 y2 y3 y4 y5 y6
      unfold spec_l13Moved.l5
      repeat' first
      | (with_reducible exact ih0 _ _ _ _ _ _ _ _ _ _ _)
      | (with_reducible exact ih1 _ _ _ _ _ _ _ _ _ _ _ _ _ _ _)
      | (with_reducible exact ih2 _ _ _ _ _ _ _ _ _ _ _ _ _ _)
      | (with_reducible exact ih3 _ _ _ _ _)
      | (with_reducible exact ih4 _ _ _ _ _ _ _ _)
      | (with_reducible exact ih5 _ _ _ _ _ _ _)
      | (with_reducible exact spec_l7At.mono _ _ _ _ _ _)
      | (with_reducible exact LeO.refl _)
      | (with_reducible exact LeO.none _)
      | (with_reducible refine LeO.ite ?_ ?_)
      | (with_reducible refine LeO.bind ?_ (fun _ => ?_))
      | exact ih0 _ _ _ _ _ _ _ _ _ _ _
      | exact ih1 _ _ _ _ _ _ _ _ _ _ _ _ _ _ _
      | exact ih2 _ _ _ _ _ _ _ _ _ _ _ _ _ _
      | exact ih3 _ _ _ _ _
      | exact ih4 _ _ _ _ _ _ _ _
      | exact ih5 _ _ _ _ _ _ _
      | exact spec_l7At.mono _ _ _ _ _ _
      | exact LeO.none _
      | refine LeO.ite ?_ ?_
      | refine LeO.bind ?_ (fun _ => ?_)
theorem spec_l13Moved.mono : ∀ a0 a1 a2 a3 a4 a5 k, LeO (spec_l13Moved.f k a0 a1 a2 a3 a4 a5) (spec_l13Moved.f (k + 1) a0 a1 a2 a3 a4 a5) := by
  intro a0 a1 a2 a3 a4 a5 k
  obtain ⟨ih0, ih1, ih2, ih3, ih4, ih5⟩ := spec_l13Moved.mono_l k
  unfold spec_l13Moved.f
  repeat' first
      | (with_reducible exact ih0 _ _ _ _ _ _ _ _ _ _ _)
      | (with_reducible exact ih1 _ _ _ _ _ _ _ _ _ _ _ _ _ _ _)
      | (with_reducible exact ih2 _ _ _ _ _ _ _ _ _ _ _ _ _ _)
      | (with_reducible exact ih3 _ _ _ _ _)
      | (with_reducible exact ih4 _ _ _ _ _ _ _ _)
      | (with_reducible exact ih5 _ _ _ _ _ _ _)
      | (with_reducible exact spec_l7At.mono _ _ _ _ _ _)
      | (with_reducible exact LeO.refl _)
      | (with_reducible exact LeO.none _)
      | (with_reducible refine LeO.ite ?_ ?_)
      | (with_reducible refine LeO.bind ?_ (fun _ => ?_))
      | exact ih0 _ _ _ _ _ _ _ _ _ _ _
      | exact ih1 _ _ _ _ _ _ _ _ _ _ _ _ _ _ _
      | exact ih2 _ _ _ _ _ _ _ _ _ _ _ _ _ _
      | exact ih3 _ _ _ _ _
      | exact ih4 _ _ _ _ _ _ _ _
      | exact ih5 _ _ _ _ _ _ _
      | exact spec_l7At.mono _ _ _ _ _ _
      | exact LeO.none _
      | refine LeO.ite ?_ ?_
      | refine LeO.bind ?_ (fun _ => ?_)
def spec_l13Moved.T18 : Bool × List (List Nat × List Nat) := (true, [([], []), ([], []), ([], []), ([], []), ([2, 3], [2, 3]), ([4], [4]), ([], []), ([], []), ([7], [7]), ([], []), ([6, 8, 9], [6, 8, 9]), ([10], [10]), ([5, 11, 10], [5, 11]), ([0, 1, 0, 1, 2, 3, 4, 5, 6, 7, 8, 9, 10, 11, 12], [0, 1]), ([13, 12, 12, 0, 1, 2, 3, 4, 5, 6, 7, 8, 9, 10, 11, 12], [12, 13])])
def spec_l13Moved.B18 : List Nat := [0, 0, 0, 0, 12, 28, 0, 0, 128, 0, 960, 1984, 4092, 8191, 16383]
theorem spec_l13Moved.tab18 : rtab .any (opsOf Try.f150 18) = spec_l13Moved.T18 := by kernel_rfl
theorem spec_l13Moved.bits18 : waitsOk spec_l13Moved.T18.2 spec_l13Moved.B18 = true := by kernel_rfl
set_option maxHeartbeats 8000000 in
set_option maxRecDepth 100000 in
theorem spec_l13Moved.calls (k : Nat) (a0_0 : Int) (a0_1 : Int) (A0_2 : Option Addr) (c0_2 : Nat) (l0_2 : List Int) (a1 : Int) (a2 : Int) (a3 : Int) (r : List Int) (w : World) (hr0_2 : Kd.C (Kd.int .i64) w A0_2 l0_2.length l0_2) (hc0_2 : l0_2.length ≤ c0_2) (h : spec_l13Moved.f k a0_0 a0_1 l0_2 a1 a2 a3 = some r) :
    Calls Try.prog 150 #[.agg #[.int .i64 a0_0, .int .i64 a0_1, .slice A0_2 l0_2.length c0_2], .int .i64 a1, .int .i64 a2, .int .i64 a3] w fun e w' => ∃ v0_ : Value, e = .returned (v0_) ∧ Kd.R (Kd.int .i64) 3 w' w.heap.size (fun _ => True) v0_ r ∧ Below w.heap.size w w' := by
  have hu29 := Try.underlying29
  have HR0_2 := Aside0.mk hr0_2
  have HC0_2 := Aside0.mk hc0_2
  clear hr0_2 hc0_2
  have HB := Aside0.mk (Below.refl w.heap.size w)
  have H : (if 0 ≤ (wrap64 (a3 + 5)) then (if (wrap64 (a3 + 5) : Int).toNat ≤ 11728124029610 then ((some (List.replicate (wrap64 (a3 + 5) : Int).toNat [] : List (List Int))).bind fun y124 => (spec_l13Moved.l0 k a3 (a1 / 4) (a2 / 4) (Go.bits .and .i64 a1 3) (Go.bits .and .i64 a2 3) y124 (y124.length : Int) 0 a0_0 a0_1 l0_2)) else (none)) else (none)) = some r := h
  clear h
  obtain ⟨ji5, hji5⟩ : ∃ j_ : Int, (wrap64 (a3 + 5)) = j_ := ⟨_, rfl⟩
  replace H : (if 0 ≤ (ji5) then (if (ji5 : Int).toNat ≤ 11728124029610 then ((some (List.replicate (ji5 : Int).toNat [] : List (List Int))).bind fun y124 => (spec_l13Moved.l0 k a3 (a1 / 4) (a2 / 4) (Go.bits .and .i64 a1 3) (Go.bits .and .i64 a2 3) y124 (y124.length : Int) 0 a0_0 a0_1 l0_2)) else (none)) else (none)) = some r := by first | (rw [hji5] at H; exact H) | (simp only [hji5] at H ⊢; exact H)
  have hji5w : (IntKind.i64.wrap (a3 + 5)) = ji5 := (i64_w _).trans hji5
  by_cases c6 : 0 ≤ (ji5)
  rotate_left
  · rw [if_neg c6] at H
    exact absurd H (by simp)
  rw [if_pos c6] at H
  have c6b0 := eq_true c6
  have c6b1 : decide (0 ≤ (ji5)) = true := decide_eq_true c6
  clear c6
  by_cases c7 : (ji5 : Int).toNat ≤ 11728124029610
  rotate_left
  · rw [if_neg c7] at H
    exact absurd H (by simp)
  rw [if_pos c7] at H
  have c7b0 := eq_true c7
  have c7b1 : decide ((ji5 : Int).toNat ≤ 11728124029610) = true := decide_eq_true c7
  clear c7
  obtain ⟨y124, hy124⟩ : ∃ y_ : List (List Int), y_ = (List.replicate (ji5 : Int).toNat []) := ⟨_, rfl⟩
  replace H : (spec_l13Moved.l0 k a3 (a1 / 4) (a2 / 4) (Go.bits .and .i64 a1 3) (Go.bits .and .i64 a2 3) y124 (y124.length : Int) 0 a0_0 a0_1 l0_2) = some r := by first | (rw [hy124]; with_reducible exact H) | (have H2_ := (Option.bind_some _ _).symm.trans H; rw [hy124]; with_reducible exact H2_) | (have H2_ := (Option.bind_some _ _).symm.trans H; with_reducible exact H2_) | with_reducible exact H | (rw [hy124]; exact H) | exact H
  have Ny124 := Aside0.mk hy124
  clear hy124
  have H' := Aside0.mk H
  clear H
  go_enter Try.func150, Try.ntmps150
  go_wp2_with (first | ((with_reducible refine gate_dst (N := 4) rfl ?_); refine box_event ?hg (N := 4) ?hd (cs := #[.int .i64 a0_0, .int .i64 a0_1, .slice A0_2 l0_2.length c0_2]) (t := 29) ?hr ?_; (case hd => rfl); (case hg => rfl); (case hr => first | (go_simp; done) | (go_simp; rfl)); intro gb123 hg w8 hbox hb; have n0_ := Aside0.mk (below_step (by repeat (first | (with_reducible first | exact HB.out | apply below_alloc | apply pw_below_drewN | apply below_drew1) | exact HB.out)) hb); have n1_ := Aside0.mk (hbox); have n2_ := Aside0.mk ((by rw [hg]; exact (below_size (by repeat (first | (with_reducible first | exact HB.out | apply below_alloc | apply pw_below_drewN | apply below_drew1) | exact HB.out))) : w.heap.size ≤ gb123)); have n3_ := n2_; clear HB; have HB := n0_; have BK123 := n1_; have GW123 := n2_; have GE123 := n3_; clear n0_ n1_ n2_ n3_; clear hb hbox hg) | ((with_reducible refine gate_dst (N := 33) rfl ?_); refine Kd.S_make (Kd.slice 3 (Kd.int .i64)) _ 22 rfl (N := 33) rfl 109 _ _ rfl ji5 rfl rfl Try.underlying109 (.slice none 0 0) 24 info22 rfl (by decide) (by omega) [] (ok := fun _ => True) (okp := fun _ => True) ⟨_, rfl, Kd.R_nil _ _ _ _ _⟩ (fun _ hk => hk) trivial (of_decide_eq_true (by first | (with_reducible assumption) | assumption)) (Nat.le_trans (Nat.mul_le_mul_right _ (of_decide_eq_true (by first | (with_reducible assumption) | assumption) : ji5.toNat ≤ 11728124029610)) (by omega)) (Below.refl _ _) (Nat.le_refl _) ?_; intro v125 w9 ho10 hb hg_ hnew_; clear hg_ hnew_; (first | rw [← Ny124.out] at ho10 | (simp only [Int.reduceToNat] at ho10; rw [← Ny124.out] at ho10)); have n0_ := Aside0.mk (Kd.S_lower ho10 (below_size (by repeat (first | (with_reducible first | exact HB.out | apply below_alloc | apply pw_below_drewN | apply below_drew1 | refine below_set ?_ GE123.out) | exact HB.out)))); have n1_ := Aside0.mk (blk_below (g := gb123) (o := .cells #[.int .i64 a0_0, .int .i64 a0_1, .slice A0_2 l0_2.length c0_2] 29 (0, 0)) (by (with_reducible repeat (first | refine blk_drewN ?_ _ | refine blk_drew ?_ | refine blk_alloc ?_ _)); exact BK123.out) hb); have n2_ := Aside0.mk (below_step (by repeat (first | (with_reducible first | exact HB.out | apply below_alloc | apply pw_below_drewN | apply below_drew1 | refine below_set ?_ GE123.out) | exact HB.out)) hb); clear BK123; clear HB; have HO126 := n0_; have BK123 := n1_; have HB := n2_; clear n0_ n1_ n2_; clear hb ho10; obtain ⟨Ao11, co11, eo11⟩ := Kd.S_slice HO126.out; subst eo11))
  go_loopg [36] k (fun kq v36 w' => ∃ (x13_1 : List (List Int)) (x36_1 : Int), v36 = .int .i64 x36_1 ∧ Aside0 (spec_l13Moved.l0 kq a3 (a1 / 4) (a2 / 4) (Go.bits .and .i64 a1 3) (Go.bits .and .i64 a2 3) x13_1 (y124.length : Int) x36_1 a0_0 a0_1 l0_2 = some r) ∧ Aside0 (kq ≤ k) ∧ Aside0 (Kd.S (Kd.slice 3 (Kd.int .i64)) 22 w' w.heap.size (fun _ => True) (.slice Ao11 y124.length co11) x13_1) ∧ Aside0 (w'.heap[gb123]? = some (.cells #[.int .i64 a0_0, .int .i64 a0_1, (.slice A0_2 l0_2.length c0_2)] 29 (0, 0))) ∧ Aside0 (Below w.heap.size w w'))
  case atStart => exact ⟨(y124), (0), (by first | rfl | (simp; done) | (simp [*]; done)), H', ⟨Nat.le_refl _⟩, ⟨by (with_reducible repeat (first | apply Kd.S_alloc | apply Kd.S_drewN | apply Kd.S_drew)); exact HO126.out⟩, ⟨by (with_reducible repeat (first | refine blk_drewN ?_ _ | refine blk_drew ?_ | refine blk_alloc ?_ _)); exact BK123.out⟩, ⟨by repeat (first | (with_reducible first | exact HB.out | apply below_alloc | apply pw_below_drewN | apply below_drew1 | refine below_set ?_ GE123.out) | exact HB.out)⟩⟩
  case round =>
    clear H'
    try clear c1
    try clear p2
    try clear c6
    try clear c6b0
    try clear c6b1
    try clear p6
    try clear c7
    try clear c7b0
    try clear c7b1
    obtain ⟨x13_1, x36_1, rfl, HA, HK1, HO_13, BK123, HB⟩ := hrel
    have hl13_1 := (Kd.S_reads' HO_13.out).1
    rw [hl13_1] at HO_13
    (try simp only [hl13_1])
    (try simp only [hl13_1] at BK123)
    cases gk with
    | zero => exact absurd HA.out (by simp [spec_l13Moved.l0])
    | succ k1 =>
      have H := HA.out
      clear HA
      simp only [spec_l13Moved.l0] at H
      by_cases c12 : x36_1 < (y124.length : Int)
      rotate_left
      · rw [if_neg c12] at H
        have c12b0 : decide (x36_1 < (y124.length : Int)) = false := decide_eq_false c12
        (try simp only [hl13_1] at c12b0)
        clear c12
        obtain ⟨ji40, hji40⟩ : ∃ j_ : Int, (wrap64 (a3 * a3)) = j_ := ⟨_, rfl⟩
        replace H : (if 0 ≤ (ji40) then (if (ji40 : Int).toNat ≤ 35184372088832 then (spec_l13Moved.l3 k1 a3 (Go.bits .and .i64 a2 3) x13_1 (List.replicate (ji40 : Int).toNat 0) 0) else (none)) else (none)) = some r := by first | (rw [hji40] at H; exact H) | (simp only [hji40] at H ⊢; exact H)
        have hji40w : (IntKind.i64.wrap (a3 * a3)) = ji40 := (i64_w _).trans hji40
        by_cases c41 : 0 ≤ (ji40)
        rotate_left
        · rw [if_neg c41] at H
          exact absurd H (by simp)
        rw [if_pos c41] at H
        have c41b0 := eq_true c41
        have c41b1 : decide (0 ≤ (ji40)) = true := decide_eq_true c41
        clear c41
        by_cases c42 : (ji40 : Int).toNat ≤ 35184372088832
        rotate_left
        · rw [if_neg c42] at H
          exact absurd H (by simp)
        rw [if_pos c42] at H
        have c42b0 := eq_true c42
        have c42b1 : decide ((ji40 : Int).toNat ≤ 35184372088832) = true := decide_eq_true c42
        clear c42
        obtain ⟨y138, hy138⟩ : ∃ y_ : List Int, y_ = (List.replicate (ji40 : Int).toNat 0) := ⟨_, rfl⟩
        replace H : (spec_l13Moved.l3 k1 a3 (Go.bits .and .i64 a2 3) x13_1 y138 0) = some r := by first | (rw [hy138]; with_reducible exact H) | (have H2_ := (Option.bind_some _ _).symm.trans H; rw [hy138]; with_reducible exact H2_) | (have H2_ := (Option.bind_some _ _).symm.trans H; with_reducible exact H2_) | with_reducible exact H | (rw [hy138]; exact H) | exact H
        have Ny138 := Aside0.mk hy138
        clear hy138
        have H' := Aside0.mk H
        clear H
        go_wp2_with (first | ((with_reducible refine gate_dst (N := 84) rfl ?_); refine Kd.R_make (Kd.int .i64) _ 3 rfl (N := 84) rfl 22 _ _ rfl ji40 rfl rfl Try.underlying22 (.int .i64 0) 8 info3 rfl (by decide) (by omega) 0 (ok := fun _ => True) (okp := fun _ => True) rfl (fun _ hk => hk) trivial (of_decide_eq_true (by first | (with_reducible assumption) | assumption)) (Nat.le_trans (Nat.mul_le_mul_right _ (of_decide_eq_true (by first | (with_reducible assumption) | assumption) : ji40.toNat ≤ 35184372088832)) (by omega)) (Below.refl _ _) (Nat.le_refl _) ?_; intro v139 w43 ho44 hb hg_ hnew_; clear hg_ hnew_; (first | rw [← Ny138.out] at ho44 | (simp only [Int.reduceToNat] at ho44; rw [← Ny138.out] at ho44)); have n0_ := Aside0.mk (Kd.S_elder' (by (with_reducible repeat (first | apply Kd.S_alloc | apply Kd.S_drewN | apply Kd.S_drew)); exact HO_13.out) (Kd.R_base ho44) hb); have n1_ := Aside0.mk (Kd.R_lower ho44 (below_size (by repeat (first | (with_reducible first | exact HB.out | apply below_alloc | apply pw_below_drewN | apply below_drew1 | refine below_set ?_ GE123.out) | exact HB.out)))); have n2_ := Aside0.mk (blk_below (g := gb123) (o := .cells #[.int .i64 a0_0, .int .i64 a0_1, .slice A0_2 l0_2.length c0_2] 29 (0, 0)) (by (with_reducible repeat (first | refine blk_drewN ?_ _ | refine blk_drew ?_ | refine blk_alloc ?_ _)); exact BK123.out) hb); have n3_ := Aside0.mk (below_step (by repeat (first | (with_reducible first | exact HB.out | apply below_alloc | apply pw_below_drewN | apply below_drew1 | refine below_set ?_ GE123.out) | exact HB.out)) hb); clear HO_13; clear BK123; clear HB; have HO_13 := n0_; have HO140 := n1_; have BK123 := n2_; have HB := n3_; clear n0_ n1_ n2_ n3_; clear hb ho44))
        go_loopg [19] k1 (fun kq v19 w' => ∃ (x18_2 : List Int) (x19_2 : Int), v19 = .int .i64 x19_2 ∧ Aside0 (spec_l13Moved.l3 kq a3 (Go.bits .and .i64 a2 3) x13_1 x18_2 x19_2 = some r) ∧ Aside0 (kq ≤ k1) ∧ Aside0 (Kd.S (Kd.slice 3 (Kd.int .i64)) 22 w' w.heap.size (fun k_ => some k_ ≠ (v139 : Value).ownBlock) (.slice Ao11 x13_1.length co11) x13_1) ∧ Aside0 (Kd.R (Kd.int .i64) 3 w' w.heap.size (fun _ => True) v139 x18_2) ∧ Aside0 (w'.heap[gb123]? = some (.cells #[.int .i64 a0_0, .int .i64 a0_1, (.slice A0_2 l0_2.length c0_2)] 29 (0, 0))) ∧ Aside0 (Below w.heap.size w w'))
        case atStart => exact ⟨(y138), (0), (by first | rfl | (simp; done) | (simp [*]; done)), H', ⟨Nat.le_refl _⟩, ⟨by (try simp only [hl13_1]); (with_reducible repeat (first | apply Kd.S_alloc | apply Kd.S_drewN | apply Kd.S_drew)); exact Kd.S_mono HO_13.out (fun _ hk => hk.2)⟩, ⟨by (try simp only [hl13_1]); (with_reducible repeat (first | apply Kd.R_alloc | apply Kd.R_drewN | apply Kd.R_drew)); exact HO140.out⟩, ⟨by (try simp only [hl13_1]); (with_reducible repeat (first | refine blk_drewN ?_ _ | refine blk_drew ?_ | refine blk_alloc ?_ _)); exact BK123.out⟩, ⟨by repeat (first | (with_reducible first | exact HB.out | apply below_alloc | apply pw_below_drewN | apply below_drew1 | refine below_set ?_ GE123.out) | exact HB.out)⟩⟩
        case round =>
          clear H'
          try clear c1
          try clear p1
          try clear q1
          try clear hx1
          try clear c2
          try clear p2
          try clear q2
          try clear hx2
          try clear c3
          try clear p3
          try clear q3
          try clear hx3
          try clear c4
          try clear c6
          try clear c6b0
          try clear c6b1
          try clear p6
          try clear c7
          try clear c7b0
          try clear c7b1
          try clear c12
          try clear c12b0
          try clear c13
          try clear p13
          try clear q13
          try clear hx13
          try clear c14
          try clear c14b0
          try clear c14b1
          try clear c15
          try clear c15b0
          try clear c15b1
          try clear c18
          try clear c19
          try clear c19b0
          try clear c21
          try clear c21b0
          try clear c22
          try clear c22b0
          try clear p23
          try clear q23
          try clear hx23
          try clear hf23
          try clear c28
          try clear c28b0
          try clear c29
          try clear c29b0
          try clear c30
          try clear c30b0
          try clear c32
          try clear p33
          try clear q33
          try clear c35
          try clear c37
          try clear hx37
          try clear hf37
          try clear c41
          try clear c41b0
          try clear c41b1
          try clear c42
          try clear c42b0
          try clear c42b1
          try clear hcz24_0
          try clear hcz24_1
          try clear hcz24_2
          try clear hfz24_0
          try clear hfz24_1
          try clear hfz24_2
          try clear hx132_0
          try clear hx23_0
          try clear hx37_0
          try clear p132
          try clear p2
          try clear p23
          try clear p33
          try clear p6
          try clear q132
          try clear q2
          try clear q23
          try clear q33
          obtain ⟨x18_2, x19_2, rfl, HA, HK2, HO_13, HO_18, BK123, HB⟩ := hrel
          cases gk with
          | zero => exact absurd HA.out (by simp [spec_l13Moved.l3])
          | succ k2 =>
            have H := HA.out
            clear HA
            simp only [spec_l13Moved.l3] at H
            by_cases c45 : x19_2 < a3
            rotate_left
            · rw [if_neg c45] at H
              have c45b0 : decide (x19_2 < a3) = false := decide_eq_false c45
              clear c45
              obtain rfl := Option.some.inj H
              go_wp2
              go_ret
              exact ⟨_, by first | rfl | (simp [errW_none, errW_some] <;> rfl) | (simp only [← hji5, ← hji40]; first | rfl | (simp [errW_none, errW_some] <;> rfl)) | (simp [*, errW_none, errW_some] <;> rfl), by (with_reducible repeat (first | apply Kd.R_alloc | apply Kd.R_drewN | apply Kd.R_drew)); exact HO_18.out, by repeat (first | (with_reducible first | exact HB.out | apply below_alloc | apply pw_below_drewN | apply below_drew1 | refine below_set ?_ GE123.out) | exact HB.out)⟩
            rw [if_pos c45] at H
            have c45b0 : decide (x19_2 < a3) = true := decide_eq_true c45
            clear c45
            replace H : (if 0 ≤ (ji5) then (if (ji5 : Int).toNat ≤ 35184372088832 then ((some (List.replicate (ji5 : Int).toNat 0 : List Int)).bind fun y141 => (spec_l13Moved.l4 k2 a3 (Go.bits .and .i64 a2 3) x13_1 x18_2 x19_2 y141 (y141.length : Int) 0)) else (none)) else (none)) = some r := by first | (rw [hji5] at H; exact H) | (simp only [hji5] at H ⊢; exact H)
            by_cases c47 : 0 ≤ (ji5)
            rotate_left
            · rw [if_neg c47] at H
              exact absurd H (by simp)
            rw [if_pos c47] at H
            have c47b0 := eq_true c47
            have c47b1 : decide (0 ≤ (ji5)) = true := decide_eq_true c47
            clear c47
            by_cases c48 : (ji5 : Int).toNat ≤ 35184372088832
            rotate_left
            · rw [if_neg c48] at H
              exact absurd H (by simp)
            rw [if_pos c48] at H
            have c48b0 := eq_true c48
            have c48b1 : decide ((ji5 : Int).toNat ≤ 35184372088832) = true := decide_eq_true c48
            clear c48
            obtain ⟨y141, hy141⟩ : ∃ y_ : List Int, y_ = (List.replicate (ji5 : Int).toNat 0) := ⟨_, rfl⟩
            replace H : (spec_l13Moved.l4 k2 a3 (Go.bits .and .i64 a2 3) x13_1 x18_2 x19_2 y141 (y141.length : Int) 0) = some r := by first | (rw [hy141]; with_reducible exact H) | (have H2_ := (Option.bind_some _ _).symm.trans H; rw [hy141]; with_reducible exact H2_) | (have H2_ := (Option.bind_some _ _).symm.trans H; with_reducible exact H2_) | with_reducible exact H | (rw [hy141]; exact H) | exact H
            have Ny141 := Aside0.mk hy141
            clear hy141
            have H' := Aside0.mk H
            clear H
            go_wp2_with (first | ((with_reducible refine gate_dst (N := 92) rfl ?_); refine Kd.R_make (Kd.int .i64) _ 3 rfl (N := 92) rfl 22 _ _ rfl ji5 rfl rfl Try.underlying22 (.int .i64 0) 8 info3 rfl (by decide) (by omega) 0 (ok := fun _ => True) (okp := fun _ => True) rfl (fun _ hk => hk) trivial (of_decide_eq_true (by first | (with_reducible assumption) | assumption)) (Nat.le_trans (Nat.mul_le_mul_right _ (of_decide_eq_true (by first | (with_reducible assumption) | assumption) : ji5.toNat ≤ 35184372088832)) (by omega)) (Below.refl _ _) (Nat.le_refl _) ?_; intro v142 w49 ho50 hb hg_ hnew_; clear hg_ hnew_; (first | rw [← Ny141.out] at ho50 | (simp only [Int.reduceToNat] at ho50; rw [← Ny141.out] at ho50)); have n0_ := Aside0.mk (Kd.S_elder' (by (with_reducible repeat (first | apply Kd.S_alloc | apply Kd.S_drewN | apply Kd.S_drew)); exact HO_13.out) (Kd.R_base ho50) hb); have n1_ := Aside0.mk (Kd.R_elder' (by (with_reducible repeat (first | apply Kd.R_alloc | apply Kd.R_drewN | apply Kd.R_drew)); exact HO_18.out) (Kd.R_base ho50) hb); have n2_ := Aside0.mk (Kd.R_lower (Kd.R_new' ho50 (Kd.R_lt (by (with_reducible repeat (first | apply Kd.R_alloc | apply Kd.R_drewN | apply Kd.R_drew)); exact HO_18.out))) (below_size (by repeat (first | (with_reducible first | exact HB.out | apply below_alloc | apply pw_below_drewN | apply below_drew1 | refine below_set ?_ GE123.out) | exact HB.out)))); have n3_ := Aside0.mk (blk_below (g := gb123) (o := .cells #[.int .i64 a0_0, .int .i64 a0_1, .slice A0_2 l0_2.length c0_2] 29 (0, 0)) (by (with_reducible repeat (first | refine blk_drewN ?_ _ | refine blk_drew ?_ | refine blk_alloc ?_ _)); exact BK123.out) hb); have n4_ := Aside0.mk (below_step (by repeat (first | (with_reducible first | exact HB.out | apply below_alloc | apply pw_below_drewN | apply below_drew1 | refine below_set ?_ GE123.out) | exact HB.out)) hb); clear HO_13; clear HO_18; clear BK123; clear HB; have HO_13 := n0_; have HO_18 := n1_; have HO143 := n2_; have BK123 := n3_; have HB := n4_; clear n0_ n1_ n2_ n3_ n4_; clear hb ho50; obtain ⟨Ao51, co51, eo51⟩ := Kd.R_slice HO143.out; subst eo51))
            go_loopg [95] k2 (fun kq v95 w' => ∃ (x20_3 : List Int) (x95_3 : Int), v95 = .int .i64 x95_3 ∧ Aside0 (spec_l13Moved.l4 kq a3 (Go.bits .and .i64 a2 3) x13_1 x18_2 x19_2 x20_3 (y141.length : Int) x95_3 = some r) ∧ Aside0 (kq ≤ k2) ∧ Aside0 (Kd.S (Kd.slice 3 (Kd.int .i64)) 22 w' w.heap.size (fun k_ => some k_ ≠ (v139 : Value).ownBlock ∧ some k_ ≠ ((.slice Ao51 y141.length co51) : Value).ownBlock) (.slice Ao11 x13_1.length co11) x13_1) ∧ Aside0 (Kd.R (Kd.int .i64) 3 w' w.heap.size (fun k_ => some k_ ≠ ((.slice Ao51 y141.length co51) : Value).ownBlock) v139 x18_2) ∧ Aside0 (Kd.R (Kd.int .i64) 3 w' w.heap.size (fun k_ => some k_ ≠ (v139 : Value).ownBlock) (.slice Ao51 y141.length co51) x20_3) ∧ Aside0 (w'.heap[gb123]? = some (.cells #[.int .i64 a0_0, .int .i64 a0_1, (.slice A0_2 l0_2.length c0_2)] 29 (0, 0))) ∧ Aside0 (Below w.heap.size w w'))
            case atStart => exact ⟨(y141), (0), (by first | rfl | (simp; done) | (simp [*]; done)), H', ⟨Nat.le_refl _⟩, ⟨by (try simp only [hl13_1]); (with_reducible repeat (first | apply Kd.S_alloc | apply Kd.S_drewN | apply Kd.S_drew)); exact HO_13.out⟩, ⟨by (try simp only [hl13_1]); (with_reducible repeat (first | apply Kd.R_alloc | apply Kd.R_drewN | apply Kd.R_drew)); exact Kd.R_mono HO_18.out (fun _ hk => hk.2)⟩, ⟨by (try simp only [hl13_1]); (with_reducible repeat (first | apply Kd.R_alloc | apply Kd.R_drewN | apply Kd.R_drew)); exact Kd.R_mono HO143.out (fun _ hk => hk.2)⟩, ⟨by (try simp only [hl13_1]); (with_reducible repeat (first | refine blk_drewN ?_ _ | refine blk_drew ?_ | refine blk_alloc ?_ _)); exact BK123.out⟩, ⟨by repeat (first | (with_reducible first | exact HB.out | apply below_alloc | apply pw_below_drewN | apply below_drew1 | refine below_set ?_ GE123.out) | exact HB.out)⟩⟩
            case round =>
              clear H'
              try clear c1
              try clear p1
              try clear q1
              try clear hx1
              try clear c2
              try clear p2
              try clear q2
              try clear hx2
              try clear c3
              try clear p3
              try clear q3
              try clear hx3
              try clear c4
              try clear c6
              try clear c6b0
              try clear c6b1
              try clear p6
              try clear c7
              try clear c7b0
              try clear c7b1
              try clear c12
              try clear c12b0
              try clear c13
              try clear p13
              try clear q13
              try clear hx13
              try clear c14
              try clear c14b0
              try clear c14b1
              try clear c15
              try clear c15b0
              try clear c15b1
              try clear c18
              try clear c19
              try clear c19b0
              try clear c21
              try clear c21b0
              try clear c22
              try clear c22b0
              try clear p23
              try clear q23
              try clear hx23
              try clear hf23
              try clear c28
              try clear c28b0
              try clear c29
              try clear c29b0
              try clear c30
              try clear c30b0
              try clear c32
              try clear p33
              try clear q33
              try clear c35
              try clear c37
              try clear hx37
              try clear hf37
              try clear c41
              try clear c41b0
              try clear c41b1
              try clear c42
              try clear c42b0
              try clear c42b1
              try clear c45
              try clear c45b0
              try clear c47
              try clear c47b0
              try clear c47b1
              try clear c48
              try clear c48b0
              try clear c48b1
              try clear hcz24_0
              try clear hcz24_1
              try clear hcz24_2
              try clear hfz24_0
              try clear hfz24_1
              try clear hfz24_2
              try clear hx132_0
              try clear hx23_0
              try clear hx37_0
              try clear p1
              try clear p13
              try clear p132
              try clear p2
              try clear p23
              try clear p3
              try clear p33
              try clear p6
              try clear q1
              try clear q13
              try clear q132
              try clear q2
              try clear q23
              try clear q3
              try clear q33
              obtain ⟨x20_3, x95_3, rfl, HA, HK3, HO_13, HO_18, HO_20, BK123, HB⟩ := hrel
              have hl20_3 := (Kd.R_reads' HO_20.out).1
              rw [hl20_3] at HO_20
              (try simp only [hl20_3])
              (try simp only [hl20_3] at BK123)
              (try simp only [hl20_3] at HO_13)
              (try simp only [hl20_3] at HO_18)
              cases gk with
              | zero => exact absurd HA.out (by simp [spec_l13Moved.l4])
              | succ k3 =>
                have H := HA.out
                clear HA
                simp only [spec_l13Moved.l4] at H
                by_cases c52 : x95_3 < (y141.length : Int)
                · rw [if_pos c52] at H
                  have c52b0 : decide (x95_3 < (y141.length : Int)) = true := decide_eq_true c52
                  (try simp only [hl13_1] at c52b0)
                  (try simp only [hl20_3] at c52b0)
                  clear c52
                  by_cases c53 : 0 ≤ x95_3
                  rotate_left
                  · rw [if_neg c53] at H
                    exact absurd H (by simp)
                  rw [if_pos c53] at H
                  have c53b0 : decide (0 ≤ x95_3) = true := decide_eq_true c53
                  clear c53
                  by_cases c54 : x95_3 < (x13_1.length : Int)
                  rotate_left
                  · rw [if_neg c54] at H
                    exact absurd H (by simp)
                  rw [if_pos c54] at H
                  have c54b0 : decide (x95_3 < (x13_1.length : Int)) = true := decide_eq_true c54
                  (try simp only [hl13_1] at c54b0)
                  (try simp only [hl20_3] at c54b0)
                  clear c54
                  by_cases c55 : 0 ≤ x19_2
                  rotate_left
                  · rw [if_neg c55] at H
                    exact absurd H (by simp)
                  rw [if_pos c55] at H
                  have c55b0 : decide (0 ≤ x19_2) = true := decide_eq_true c55
                  clear c55
                  by_cases c56 : x19_2 < ((rd_L1 x13_1 x95_3).length : Int)
                  rotate_left
                  · rw [if_neg c56] at H
                    exact absurd H (by simp)
                  rw [if_pos c56] at H
                  have c56b0 : decide (x19_2 < ((rd_L1 x13_1 x95_3).length : Int)) = true := decide_eq_true c56
                  (try simp only [hl13_1] at c56b0)
                  (try simp only [hl20_3] at c56b0)
                  clear c56
                  by_cases c57 : x95_3 < (x20_3.length : Int)
                  rotate_left
                  · rw [if_neg c57] at H
                    exact absurd H (by simp)
                  rw [if_pos c57] at H
                  have c57b0 : decide (x95_3 < (x20_3.length : Int)) = true := decide_eq_true c57
                  (try simp only [hl13_1] at c57b0)
                  (try simp only [hl20_3] at c57b0)
                  clear c57
                  obtain ⟨y146, hy146⟩ : ∃ y_ : List Int, y_ = (x20_3.set (x95_3 : Int).toNat (rd (rd_L1 x13_1 x95_3) x19_2)) := ⟨_, rfl⟩
                  replace H : (spec_l13Moved.l4 k3 a3 (Go.bits .and .i64 a2 3) x13_1 x18_2 x19_2 y146 (y141.length : Int) (wrap64 (x95_3 + 1))) = some r := by first | (rw [hy146]; with_reducible exact H) | (have H2_ := (Option.bind_some _ _).symm.trans H; rw [hy146]; with_reducible exact H2_) | (have H2_ := (Option.bind_some _ _).symm.trans H; with_reducible exact H2_) | with_reducible exact H | (rw [hy146]; exact H) | exact H
                  have Ny146 := Aside0.mk hy146
                  clear hy146
                  have H' := Aside0.mk H
                  clear H
                  have p144 : 0 ≤ (x95_3 : Int) := of_decide_eq_true (by first | (with_reducible assumption) | assumption)
                  have q144 : x95_3 < (x13_1.length : Int) := of_decide_eq_true (by first | (with_reducible assumption) | assumption)
                  obtain ⟨ad144, A144_0, c144_0, e144, hx144_0, hl144_0, hi144_0⟩ := at_L1 (Kd.S_reads' HO_13.out).2.2 x95_3 p144 q144
                  cases e144
                  obtain ⟨ce144, hce144, hMe144, hcc144⟩ := Kd.S_get HO_13.out [] x95_3 p144 (by first | exact q144 | exact of_decide_eq_true (by first | (with_reducible assumption) | assumption) | (have e_ := (Kd.S_reads' HO_13.out).1; omega))
                  obtain ⟨ve144_0, rfl, ge144_0⟩ := hMe144
                  have hv144_0 := hcc144 0 _ rfl
                  rw [Nat.add_zero, show ((Kd.slice 3 (Kd.int .i64))).sz = 1 from rfl, Nat.mul_one] at hv144_0
                  replace hv144_0 := Option.some.inj (hv144_0.symm.trans hx144_0)
                  rw [hv144_0] at ge144_0
                  have HL144_0 := Aside0.mk (show Kd.R (Kd.int .i64) 3 _ _ _ _ (rd_L1 x13_1 x95_3) from ge144_0)
                  clear hv144_0 ge144_0
                  have HX144_0 := Aside0.mk hx144_0
                  clear hcc144 hce144
                  have HR144_0 := Aside0.mk hi144_0
                  have HC144_0 := Aside0.mk hl144_0
                  clear hi144_0 hl144_0
                  replace p144 := eq_true p144
                  replace q144 := eq_true q144
                  have p145 : 0 ≤ (x19_2 : Int) := of_decide_eq_true (by first | (with_reducible assumption) | assumption)
                  have q145 : x19_2 < ((rd_L1 x13_1 x95_3).length : Int) := of_decide_eq_true (by first | (with_reducible assumption) | assumption)
                  obtain ⟨ad145, e145, hx145_0⟩ := Kd.at_int (by repeat (first | (with_reducible exact HR144_0.out) | (with_reducible refine Kd.C_alloc ?_ _) | (with_reducible refine Kd.C_drewN ?_ _) | (with_reducible refine Kd.C_drew ?_) | exact HR144_0.out)) x19_2 p145 q145
                  cases e145
                  replace p145 := eq_true p145
                  replace q145 := eq_true q145
                  have p58 : 0 ≤ (x95_3 : Int) := of_decide_eq_true (by first | (with_reducible assumption) | assumption)
                  have q58 : (x95_3 : Int) < ((x20_3.length : Int) : Int) := of_decide_eq_true (by first | (with_reducible assumption) | assumption)
                  obtain ⟨go58, co58, eo58, gb58, gl58, cl58, HG58⟩ := Kd.R_form HO_20.out (by omega)
                  (first | cases eo58 | (injection eo58 with ea_ en_ ec_; (first | subst ea_ | (injection ea_ with ea_; subst ea_)); subst ec_; clear en_))
                  have GB58 := Aside0.mk gb58
                  have GG58 := Aside0.mk HG58
                  clear gb58 gl58 HG58
                  obtain ⟨hx58_0, hf58_0⟩ := Kd.R_celln 0 HO_20.out (x95_3 : Int) p58 q58
                  replace p58 := eq_true p58
                  replace q58 := eq_true q58
                  have HP59 := Kd.R_putg HO_20.out (x95_3 : Int) (rd (rd_L1 x13_1 x95_3) x19_2)
                  go_wp2_with (first | ((with_reducible refine gate_store (t := 3) (p := 107) rfl ?_); refine store_event (t := 3) (p := 107) (v := ?vo_w60) (w1 := (wr.setCell ⟨go58, (x95_3 : Int).toNat, none⟩ (.int .i64 (rd (rd_L1 x13_1 x95_3) x19_2)))) ?hg ?ho ?hn ?hr ?_; (case ho => rfl); (case hg => rfl); (case hn => rfl); (case hr => first | (go_simp; done) | (go_simp; rfl)); intro w60 hw; have hg : wr.grownBy w60 (some go58) := (by rw [hw]; exact HP59.2); have hp_ : Kd.R (Kd.int .i64) 3 w60 w.heap.size (fun k_ => some k_ ≠ (v139 : Value).ownBlock) (.slice (some ⟨go58, 0, none⟩) x20_3.length co51) y146 := (by rw [hw, Ny146.out]; exact HP59.1); clear HP59; have n0_ := Aside0.mk (Kd.S_after (v := (.slice (some ⟨go58, 0, none⟩) x20_3.length co51)) (v1 := (.slice (some ⟨go58, 0, none⟩) x20_3.length co51)) (ok := (fun k_ => some k_ ≠ (v139 : Value).ownBlock)) (by (with_reducible repeat (first | apply Kd.S_alloc | apply Kd.S_drewN | apply Kd.S_drew)); exact HO_13.out) hg (.inl rfl)); have n1_ := Aside0.mk (Kd.R_after (v := (.slice (some ⟨go58, 0, none⟩) x20_3.length co51)) (v1 := (.slice (some ⟨go58, 0, none⟩) x20_3.length co51)) (ok := (fun _ => True)) (by (with_reducible repeat (first | apply Kd.R_alloc | apply Kd.R_drewN | apply Kd.R_drew)); exact Kd.R_mono HO_18.out (fun _ hk => ⟨trivial, hk⟩)) hg (.inl rfl)); have n2_ := Aside0.mk (hp_); have n3_ := Aside0.mk (blk_grown (g := gb123) (o := .cells #[.int .i64 a0_0, .int .i64 a0_1, .slice A0_2 l0_2.length c0_2] 29 (0, 0)) (by (with_reducible repeat (first | refine blk_drewN ?_ _ | refine blk_drew ?_ | refine blk_alloc ?_ _)); exact BK123.out) hg (Kd.R_ne HO_20.out BK123.out (by decide))); have n4_ := Aside0.mk (Kd.R_after (v := (.slice (some ⟨go58, 0, none⟩) x20_3.length co51)) (v1 := (.slice (some ⟨go58, 0, none⟩) x20_3.length co51)) (ok := (fun k_ => some k_ ≠ (.slice (some ad144) x13_1.length co11 : Value).ownBlock ∧ some k_ ≠ (v139 : Value).ownBlock)) (by (with_reducible repeat (first | apply Kd.R_alloc | apply Kd.R_drewN | apply Kd.R_drew)); exact Kd.R_mono HL144_0.out (fun _ hk => ⟨⟨hk.2, hk.1.1⟩, hk.1.2⟩)) hg (.inl rfl)); have n5_ := Aside0.mk ((by rw [hw]; exact below_set (HB.out) GB58.out : Below w.heap.size w w60)); clear HO_13; clear HO_18; clear HO_20; clear BK123; clear HL144_0; clear HB; have HO_13 := n0_; have HO_18 := n1_; have HO_20 := n2_; have BK123 := n3_; have HL144_0 := n4_; have HB := n5_; clear n0_ n1_ n2_ n3_ n4_ n5_; clear hg hw hp_))
                  (try simp only [← hl20_3])
                  go_roundg k3
                  case measure => have := HK1.out; have := HK2.out; have := HK3.out; omega
                  case rel => exact ⟨(y146), (wrap64 (x95_3 + 1)), (by first | rfl | (simp; done) | (simp [*]; done)), H', ⟨by have := HK1.out; have := HK2.out; have := HK3.out; omega⟩, ⟨by (try simp only [hl13_1]); (try simp only [hl20_3]); (with_reducible repeat (first | apply Kd.S_alloc | apply Kd.S_drewN | apply Kd.S_drew)); exact HO_13.out⟩, ⟨by (try simp only [hl13_1]); (try simp only [hl20_3]); (with_reducible repeat (first | apply Kd.R_alloc | apply Kd.R_drewN | apply Kd.R_drew)); exact Kd.R_mono HO_18.out (fun _ hk => hk.2)⟩, ⟨by (try simp only [hl13_1]); (try simp only [hl20_3]); (with_reducible repeat (first | apply Kd.R_alloc | apply Kd.R_drewN | apply Kd.R_drew)); exact HO_20.out⟩, ⟨by (try simp only [hl13_1]); (try simp only [hl20_3]); (with_reducible repeat (first | refine blk_drewN ?_ _ | refine blk_drew ?_ | refine blk_alloc ?_ _)); exact BK123.out⟩, ⟨by repeat (first | (with_reducible first | exact HB.out | apply below_alloc | apply pw_below_drewN | apply below_drew1 | refine below_set ?_ GE123.out) | exact HB.out)⟩⟩
                rw [if_neg c52] at H
                have c52b0 : decide (x95_3 < (y141.length : Int)) = false := decide_eq_false c52
                (try simp only [hl13_1] at c52b0)
                (try simp only [hl20_3] at c52b0)
                clear c52
                have H' := Aside0.mk H
                clear H
                go_wp2
                go_loopg [22] k3 (fun kq v22 w' => ∃ (x18_4 : List Int) (x22_4 : Int), v22 = .int .i64 x22_4 ∧ Aside0 (spec_l13Moved.l5 kq a3 (Go.bits .and .i64 a2 3) x13_1 x18_4 x19_2 x20_3 x22_4 = some r) ∧ Aside0 (kq ≤ k3) ∧ Aside0 (Kd.S (Kd.slice 3 (Kd.int .i64)) 22 w' w.heap.size (fun k_ => some k_ ≠ (v139 : Value).ownBlock ∧ some k_ ≠ ((.slice Ao51 x20_3.length co51) : Value).ownBlock) (.slice Ao11 x13_1.length co11) x13_1) ∧ Aside0 (Kd.R (Kd.int .i64) 3 w' w.heap.size (fun k_ => some k_ ≠ ((.slice Ao51 x20_3.length co51) : Value).ownBlock) v139 x18_4) ∧ Aside0 (Kd.R (Kd.int .i64) 3 w' w.heap.size (fun k_ => some k_ ≠ (v139 : Value).ownBlock) (.slice Ao51 x20_3.length co51) x20_3) ∧ Aside0 (w'.heap[gb123]? = some (.cells #[.int .i64 a0_0, .int .i64 a0_1, (.slice A0_2 l0_2.length c0_2)] 29 (0, 0))) ∧ Aside0 (Below w.heap.size w w'))
                case atStart => exact ⟨(x18_2), (0), (by first | rfl | (simp; done) | (simp [*]; done)), H', ⟨Nat.le_refl _⟩, ⟨by (try simp only [hl13_1]); (try simp only [hl20_3]); (with_reducible repeat (first | apply Kd.S_alloc | apply Kd.S_drewN | apply Kd.S_drew)); exact HO_13.out⟩, ⟨by (try simp only [hl13_1]); (try simp only [hl20_3]); (with_reducible repeat (first | apply Kd.R_alloc | apply Kd.R_drewN | apply Kd.R_drew)); exact HO_18.out⟩, ⟨by (try simp only [hl13_1]); (try simp only [hl20_3]); (with_reducible repeat (first | apply Kd.R_alloc | apply Kd.R_drewN | apply Kd.R_drew)); exact HO_20.out⟩, ⟨by (try simp only [hl13_1]); (try simp only [hl20_3]); (with_reducible repeat (first | refine blk_drewN ?_ _ | refine blk_drew ?_ | refine blk_alloc ?_ _)); exact BK123.out⟩, ⟨by repeat (first | (with_reducible first | exact HB.out | apply below_alloc | apply pw_below_drewN | apply below_drew1 | refine below_set ?_ GE123.out) | exact HB.out)⟩⟩
                case round =>
                  clear H'
                  try clear c1
                  try clear p1
                  try clear q1
                  try clear hx1
                  try clear c2
                  try clear p2
                  try clear q2
                  try clear hx2
                  try clear c3
                  try clear p3
                  try clear q3
                  try clear hx3
                  try clear c4
                  try clear c5
                  try clear p5
                  try clear q5
                  try clear hx5
                  try clear hf5
                  try clear c6
                  try clear c6b0
                  try clear c6b1
                  try clear p6
                  try clear c7
                  try clear c7b0
                  try clear c7b1
                  try clear c12
                  try clear c12b0
                  try clear c13
                  try clear p13
                  try clear q13
                  try clear hx13
                  try clear c14
                  try clear c14b0
                  try clear c14b1
                  try clear p14
                  try clear q14
                  try clear hx14
                  try clear c15
                  try clear c15b0
                  try clear c15b1
                  try clear c18
                  try clear c19
                  try clear c19b0
                  try clear c21
                  try clear c21b0
                  try clear c22
                  try clear c22b0
                  try clear p23
                  try clear q23
                  try clear hx23
                  try clear hf23
                  try clear c28
                  try clear c28b0
                  try clear c29
                  try clear c29b0
                  try clear c30
                  try clear c30b0
                  try clear c32
                  try clear p33
                  try clear q33
                  try clear c35
                  try clear c37
                  try clear hx37
                  try clear hf37
                  try clear c41
                  try clear c41b0
                  try clear c41b1
                  try clear c42
                  try clear c42b0
                  try clear c42b1
                  try clear c45
                  try clear c45b0
                  try clear c47
                  try clear c47b0
                  try clear c47b1
                  try clear c48
                  try clear c48b0
                  try clear c48b1
                  try clear c52
                  try clear c52b0
                  try clear c53
                  try clear c53b0
                  try clear c54
                  try clear c54b0
                  try clear c55
                  try clear c55b0
                  try clear c56
                  try clear c56b0
                  try clear c57
                  try clear c57b0
                  try clear p58
                  try clear q58
                  try clear hx58
                  try clear hf58
                  try clear hcz24_0
                  try clear hcz24_1
                  try clear hcz24_2
                  try clear hfz24_0
                  try clear hfz24_1
                  try clear hfz24_2
                  try clear hx132_0
                  try clear hx144_0
                  try clear hx145_0
                  try clear hx23_0
                  try clear hx37_0
                  try clear hx58_0
                  try clear p1
                  try clear p13
                  try clear p132
                  try clear p144
                  try clear p145
                  try clear p2
                  try clear p23
                  try clear p3
                  try clear p33
                  try clear p58
                  try clear p6
                  try clear q1
                  try clear q13
                  try clear q132
                  try clear q144
                  try clear q145
                  try clear q2
                  try clear q23
                  try clear q3
                  try clear q33
                  try clear q58
                  obtain ⟨x18_4, x22_4, rfl, HA, HK4, HO_13, HO_18, HO_20, BK123, HB⟩ := hrel
                  cases gk with
                  | zero => exact absurd HA.out (by simp [spec_l13Moved.l5])
                  | succ k4 =>
                    have H := HA.out
                    clear HA
                    simp only [spec_l13Moved.l5] at H
                    by_cases c61 : x22_4 < a3
                    rotate_left
                    · rw [if_neg c61] at H
                      have c61b0 : decide (x22_4 < a3) = false := decide_eq_false c61
                      clear c61
                      have H' := Aside0.mk H
                      clear H
                      go_wp2
                      (try simp only [← hl20_3])
                      go_roundg k4
                      case measure => have := HK1.out; have := HK2.out; have := HK3.out; have := HK4.out; omega
                      case rel => exact ⟨(x18_4), (wrap64 (x19_2 + 1)), (by first | rfl | (simp; done) | (simp [*]; done)), H', ⟨by have := HK1.out; have := HK2.out; have := HK3.out; have := HK4.out; omega⟩, ⟨by (try simp only [hl13_1]); (try simp only [hl20_3]); (with_reducible repeat (first | apply Kd.S_alloc | apply Kd.S_drewN | apply Kd.S_drew)); exact Kd.S_mono HO_13.out (fun _ hk => hk.1)⟩, ⟨by (try simp only [hl13_1]); (try simp only [hl20_3]); (with_reducible repeat (first | apply Kd.R_alloc | apply Kd.R_drewN | apply Kd.R_drew)); exact Kd.R_mono HO_18.out (fun _ hk => trivial)⟩, ⟨by (try simp only [hl13_1]); (try simp only [hl20_3]); (with_reducible repeat (first | refine blk_drewN ?_ _ | refine blk_drew ?_ | refine blk_alloc ?_ _)); exact BK123.out⟩, ⟨by repeat (first | (with_reducible first | exact HB.out | apply below_alloc | apply pw_below_drewN | apply below_drew1 | refine below_set ?_ GE123.out) | exact HB.out)⟩⟩
                    rw [if_pos c61] at H
                    have c61b0 : decide (x22_4 < a3) = true := decide_eq_true c61
                    clear c61
                    replace H := Option.bind_eq_some_iff.mp H
                    obtain ⟨t147, A620, H⟩ := H
                    replace H : (if 0 ≤ (wrap64 ((wrap64 (x22_4 * a3)) + x19_2)) then (if (wrap64 ((wrap64 (x22_4 * a3)) + x19_2)) < (x18_4.length : Int) then (spec_l13Moved.l5 k4 a3 (Go.bits .and .i64 a2 3) x13_1 (x18_4.set ((wrap64 ((wrap64 (x22_4 * a3)) + x19_2)) : Int).toNat t147) x19_2 x20_3 (wrap64 (x22_4 + 1))) else (none)) else (none)) = some r := H
                    have A62 := Aside0.mk A620
                    clear A620
                    obtain ⟨ji63, hji63⟩ : ∃ j_ : Int, (wrap64 ((wrap64 (x22_4 * a3)) + x19_2)) = j_ := ⟨_, rfl⟩
                    replace H : (if 0 ≤ (ji63) then (if (ji63) < (x18_4.length : Int) then (spec_l13Moved.l5 k4 a3 (Go.bits .and .i64 a2 3) x13_1 (x18_4.set ((ji63) : Int).toNat t147) x19_2 x20_3 (wrap64 (x22_4 + 1))) else (none)) else (none)) = some r := by first | (rw [hji63] at H; exact H) | (simp only [hji63] at H ⊢; exact H)
                    (try rw [hji63] at A62)
                    have hji63w : (IntKind.i64.wrap ((wrap64 (x22_4 * a3)) + x19_2)) = ji63 := (i64_w _).trans hji63
                    by_cases c64 : 0 ≤ (ji63)
                    rotate_left
                    · rw [if_neg c64] at H
                      exact absurd H (by simp)
                    rw [if_pos c64] at H
                    have c64b0 : decide (0 ≤ (ji63)) = true := decide_eq_true c64
                    clear c64
                    by_cases c65 : (ji63) < (x18_4.length : Int)
                    rotate_left
                    · rw [if_neg c65] at H
                      exact absurd H (by simp)
                    rw [if_pos c65] at H
                    have c65b0 : decide ((ji63) < (x18_4.length : Int)) = true := decide_eq_true c65
                    (try simp only [hl13_1] at c65b0)
                    (try simp only [hl20_3] at c65b0)
                    clear c65
                    obtain ⟨y148, hy148⟩ : ∃ y_ : List Int, y_ = (x18_4.set ((ji63) : Int).toNat t147) := ⟨_, rfl⟩
                    replace H : (spec_l13Moved.l5 k4 a3 (Go.bits .and .i64 a2 3) x13_1 y148 x19_2 x20_3 (wrap64 (x22_4 + 1))) = some r := by first | (rw [hy148]; with_reducible exact H) | (have H2_ := (Option.bind_some _ _).symm.trans H; rw [hy148]; with_reducible exact H2_) | (have H2_ := (Option.bind_some _ _).symm.trans H; with_reducible exact H2_) | with_reducible exact H | (rw [hy148]; exact H) | exact H
                    have Ny148 := Aside0.mk hy148
                    clear hy148
                    have H' := Aside0.mk H
                    clear H
                    go_wp2_with (first | ((with_reducible refine gate_callee (f := 188) rfl ?_); refine goesL_ (some 124) rfl rfl Try.func188 (by kernel_rfl) rfl #[.slice Ao51 x20_3.length co51, .int .i64 (wrap64 (x22_4 + 2)), .int .i64 (Go.bits .and .i64 a2 3)] rfl (by (try simp only [List.map_toArray, List.map_cons, List.map_nil]); first | done | rfl | (simp only [List.length_drop, List.length_take]; rfl)) ?_; (with_reducible refine (spec_l13Quarter.calls _ _ x20_3 (wrap64 (x22_4 + 2)) (Go.bits .and .i64 a2 3) t147 _ ?side1 ?side2 A62.out).mono ?_); (case side1 => repeat (first | exact (Kd.R_reads' HO_20.out).2.2 | (with_reducible refine Kd.C_alloc ?_ _) | (with_reducible refine Kd.C_drewN ?_ _) | (with_reducible refine Kd.C_drew ?_))); (case side2 => exact (Kd.R_reads' HO_20.out).2.1); rintro e w' ⟨rfl, ⟨nd, rfl⟩⟩; refine ⟨_, rfl, ?_⟩; (try (rw [drewN_self wr]; generalize hq_ : World.drewN wr _ = wr; have n0_ : Aside0 (Kd.S (Kd.slice 3 (Kd.int .i64)) 22 wr w.heap.size (fun k_ => (some k_ ≠ (v139 : Value).ownBlock ∧ some k_ ≠ (.slice Ao51 x20_3.length co51 : Value).ownBlock)) (.slice Ao11 x13_1.length co11) x13_1) := ⟨by rw [← hq_]; exact (by (with_reducible repeat (first | apply Kd.S_alloc | apply Kd.S_drewN | apply Kd.S_drew)); exact HO_13.out)⟩; have n1_ : Aside0 (Kd.R (Kd.int .i64) 3 wr w.heap.size (fun k_ => some k_ ≠ (.slice Ao51 x20_3.length co51 : Value).ownBlock) v139 x18_4) := ⟨by rw [← hq_]; exact (by (with_reducible repeat (first | apply Kd.R_alloc | apply Kd.R_drewN | apply Kd.R_drew)); exact HO_18.out)⟩; have n2_ : Aside0 (Kd.R (Kd.int .i64) 3 wr w.heap.size (fun k_ => some k_ ≠ (v139 : Value).ownBlock) (.slice Ao51 x20_3.length co51) x20_3) := ⟨by rw [← hq_]; exact (by (with_reducible repeat (first | apply Kd.R_alloc | apply Kd.R_drewN | apply Kd.R_drew)); exact HO_20.out)⟩; have n3_ : Aside0 (wr.heap[gb123]? = some (.cells #[.int .i64 a0_0, .int .i64 a0_1, .slice A0_2 l0_2.length c0_2] 29 (0, 0))) := ⟨by rw [← hq_]; exact (by (with_reducible repeat (first | refine blk_drewN ?_ _ | refine blk_drew ?_ | refine blk_alloc ?_ _)); exact BK123.out)⟩; have n4_ : Aside0 (Below w.heap.size w wr) := ⟨by rw [← hq_]; exact (by repeat (first | (with_reducible first | exact HB.out | apply below_alloc | apply pw_below_drewN | apply below_drew1 | refine below_set ?_ GE123.out) | exact HB.out))⟩; clear HO_13 HO_18 HO_20 BK123 HB hq_; have HO_13 := n0_; have HO_18 := n1_; have HO_20 := n2_; have BK123 := n3_; have HB := n4_; clear n0_ n1_ n2_ n3_ n4_)); have p66 : 0 ≤ ((ji63) : Int) := of_decide_eq_true (by first | (with_reducible assumption) | assumption); have q66 : ((ji63) : Int) < ((x18_4.length : Int) : Int) := of_decide_eq_true (by first | (with_reducible assumption) | assumption); obtain ⟨go66, co66, eo66, gb66, gl66, cl66, HG66⟩ := Kd.R_form HO_18.out (by omega); (first | cases eo66 | (injection eo66 with ea_ en_ ec_; (first | subst ea_ | (injection ea_ with ea_; subst ea_)); subst ec_; clear en_)); have GB66 := Aside0.mk gb66; have GG66 := Aside0.mk HG66; clear gb66 gl66 HG66; obtain ⟨hx66_0, hf66_0⟩ := Kd.R_celln 0 HO_18.out ((ji63) : Int) p66 q66; replace p66 := eq_true p66; replace q66 := eq_true q66; obtain ⟨hy67_, hz67_⟩ := Kd.R_celln 0 HO_18.out ((ji63) : Int) (of_decide_eq_true (by first | (with_reducible assumption) | assumption)) (of_decide_eq_true (by first | (with_reducible assumption) | assumption)); have HP67 := Kd.R_putg HO_18.out ((ji63) : Int) t147) | ((with_reducible refine gate_store (t := 3) (p := 125) rfl ?_); refine store_event (t := 3) (p := 125) (v := ?vo_w68) (w1 := (wr.setCell ⟨go66, ((ji63) : Int).toNat, none⟩ (.int .i64 t147))) ?hg ?ho ?hn ?hr ?_; (case ho => rfl); (case hg => rfl); (case hn => rfl); (case hr => first | (go_simp; done) | (go_simp; rfl)); intro w68 hw; have hg : wr.grownBy w68 (some go66) := (by rw [hw]; exact HP67.2); have hp_ : Kd.R (Kd.int .i64) 3 w68 w.heap.size (fun k_ => some k_ ≠ (.slice Ao51 x20_3.length co51 : Value).ownBlock) (.slice (some ⟨go66, 0, none⟩) x18_4.length co66) y148 := (by rw [hw, Ny148.out]; exact HP67.1); clear HP67; have n0_ := Aside0.mk (Kd.S_after (v := (.slice (some ⟨go66, 0, none⟩) x18_4.length co66)) (v1 := (.slice (some ⟨go66, 0, none⟩) x18_4.length co66)) (ok := (fun k_ => some k_ ≠ (.slice Ao51 x20_3.length co51 : Value).ownBlock)) (by (with_reducible repeat (first | apply Kd.S_alloc | apply Kd.S_drewN | apply Kd.S_drew)); exact Kd.S_mono HO_13.out (fun _ hk => ⟨hk.2, hk.1⟩)) hg (.inl rfl)); have n1_ := Aside0.mk (hp_); have n2_ := Aside0.mk (Kd.R_after (v := (.slice (some ⟨go66, 0, none⟩) x18_4.length co66)) (v1 := (.slice (some ⟨go66, 0, none⟩) x18_4.length co66)) (ok := (fun _ => True)) (by (with_reducible repeat (first | apply Kd.R_alloc | apply Kd.R_drewN | apply Kd.R_drew)); exact Kd.R_mono HO_20.out (fun _ hk => ⟨trivial, hk⟩)) hg (.inl rfl)); have n3_ := Aside0.mk (blk_grown (g := gb123) (o := .cells #[.int .i64 a0_0, .int .i64 a0_1, .slice A0_2 l0_2.length c0_2] 29 (0, 0)) (by (with_reducible repeat (first | refine blk_drewN ?_ _ | refine blk_drew ?_ | refine blk_alloc ?_ _)); exact BK123.out) hg (Kd.R_ne HO_18.out BK123.out (by decide))); have n4_ := Aside0.mk ((by rw [hw]; exact below_set (HB.out) GB66.out : Below w.heap.size w w68)); clear HO_13; clear HO_18; clear HO_20; clear BK123; clear HB; have HO_13 := n0_; have HO_18 := n1_; have HO_20 := n2_; have BK123 := n3_; have HB := n4_; clear n0_ n1_ n2_ n3_ n4_; clear hg hw hp_))
                    go_roundg k4
                    case measure => have := HK1.out; have := HK2.out; have := HK3.out; have := HK4.out; omega
                    case rel => exact ⟨(y148), (wrap64 (x22_4 + 1)), (by first | rfl | (simp; done) | (simp [*]; done)), H', ⟨by have := HK1.out; have := HK2.out; have := HK3.out; have := HK4.out; omega⟩, ⟨by (try simp only [hl13_1]); (try simp only [hl20_3]); (with_reducible repeat (first | apply Kd.S_alloc | apply Kd.S_drewN | apply Kd.S_drew)); exact Kd.S_mono HO_13.out (fun _ hk => ⟨hk.2, hk.1⟩)⟩, ⟨by (try simp only [hl13_1]); (try simp only [hl20_3]); (with_reducible repeat (first | apply Kd.R_alloc | apply Kd.R_drewN | apply Kd.R_drew)); exact HO_18.out⟩, ⟨by (try simp only [hl13_1]); (try simp only [hl20_3]); (with_reducible repeat (first | apply Kd.R_alloc | apply Kd.R_drewN | apply Kd.R_drew)); exact Kd.R_mono HO_20.out (fun _ hk => hk.2)⟩, ⟨by (try simp only [hl13_1]); (try simp only [hl20_3]); (with_reducible repeat (first | refine blk_drewN ?_ _ | refine blk_drew ?_ | refine blk_alloc ?_ _)); exact BK123.out⟩, ⟨by repeat (first | (with_reducible first | exact HB.out | apply below_alloc | apply pw_below_drewN | apply below_drew1 | refine below_set ?_ GE123.out) | exact HB.out)⟩⟩
      rw [if_pos c12] at H
      have c12b0 : decide (x36_1 < (y124.length : Int)) = true := decide_eq_true c12
      (try simp only [hl13_1] at c12b0)
      clear c12
      replace H : (if 0 ≤ (ji5) then (if (ji5 : Int).toNat ≤ 35184372088832 then ((some (List.replicate (ji5 : Int).toNat 0 : List Int)).bind fun y127 => (spec_l13Moved.l1 k1 a3 (a1 / 4) (a2 / 4) (Go.bits .and .i64 a1 3) (Go.bits .and .i64 a2 3) x13_1 x36_1 y127 (y124.length : Int) x36_1 (y127.length : Int) 0 a0_0 a0_1 l0_2)) else (none)) else (none)) = some r := by first | (rw [hji5] at H; exact H) | (simp only [hji5] at H ⊢; exact H)
      by_cases c14 : 0 ≤ (ji5)
      rotate_left
      · rw [if_neg c14] at H
        exact absurd H (by simp)
      rw [if_pos c14] at H
      have c14b0 := eq_true c14
      have c14b1 : decide (0 ≤ (ji5)) = true := decide_eq_true c14
      clear c14
      by_cases c15 : (ji5 : Int).toNat ≤ 35184372088832
      rotate_left
      · rw [if_neg c15] at H
        exact absurd H (by simp)
      rw [if_pos c15] at H
      have c15b0 := eq_true c15
      have c15b1 : decide ((ji5 : Int).toNat ≤ 35184372088832) = true := decide_eq_true c15
      clear c15
      obtain ⟨y127, hy127⟩ : ∃ y_ : List Int, y_ = (List.replicate (ji5 : Int).toNat 0) := ⟨_, rfl⟩
      replace H : (spec_l13Moved.l1 k1 a3 (a1 / 4) (a2 / 4) (Go.bits .and .i64 a1 3) (Go.bits .and .i64 a2 3) x13_1 x36_1 y127 (y124.length : Int) x36_1 (y127.length : Int) 0 a0_0 a0_1 l0_2) = some r := by first | (rw [hy127]; with_reducible exact H) | (have H2_ := (Option.bind_some _ _).symm.trans H; rw [hy127]; with_reducible exact H2_) | (have H2_ := (Option.bind_some _ _).symm.trans H; with_reducible exact H2_) | with_reducible exact H | (rw [hy127]; exact H) | exact H
      have Ny127 := Aside0.mk hy127
      clear hy127
      have H' := Aside0.mk H
      clear H
      go_wp2_with (first | ((with_reducible refine gate_dst (N := 41) rfl ?_); refine Kd.R_make (Kd.int .i64) _ 3 rfl (N := 41) rfl 22 _ _ rfl ji5 rfl rfl Try.underlying22 (.int .i64 0) 8 info3 rfl (by decide) (by omega) 0 (ok := fun _ => True) (okp := fun _ => True) rfl (fun _ hk => hk) trivial (of_decide_eq_true (by first | (with_reducible assumption) | assumption)) (Nat.le_trans (Nat.mul_le_mul_right _ (of_decide_eq_true (by first | (with_reducible assumption) | assumption) : ji5.toNat ≤ 35184372088832)) (by omega)) (Below.refl _ _) (Nat.le_refl _) ?_; intro v128 w16 ho17 hb hg_ hnew_; clear hg_ hnew_; (first | rw [← Ny127.out] at ho17 | (simp only [Int.reduceToNat] at ho17; rw [← Ny127.out] at ho17)); have n0_ := Aside0.mk (Kd.S_elder' (by (with_reducible repeat (first | apply Kd.S_alloc | apply Kd.S_drewN | apply Kd.S_drew)); exact HO_13.out) (Kd.R_base ho17) hb); have n1_ := Aside0.mk (Kd.R_lower ho17 (below_size (by repeat (first | (with_reducible first | exact HB.out | apply below_alloc | apply pw_below_drewN | apply below_drew1 | refine below_set ?_ GE123.out) | exact HB.out)))); have n2_ := Aside0.mk (blk_below (g := gb123) (o := .cells #[.int .i64 a0_0, .int .i64 a0_1, .slice A0_2 l0_2.length c0_2] 29 (0, 0)) (by (with_reducible repeat (first | refine blk_drewN ?_ _ | refine blk_drew ?_ | refine blk_alloc ?_ _)); exact BK123.out) hb); have n3_ := Aside0.mk (below_step (by repeat (first | (with_reducible first | exact HB.out | apply below_alloc | apply pw_below_drewN | apply below_drew1 | refine below_set ?_ GE123.out) | exact HB.out)) hb); clear HO_13; clear BK123; clear HB; have HO_13 := n0_; have HO129 := n1_; have BK123 := n2_; have HB := n3_; clear n0_ n1_ n2_ n3_; clear hb ho17; obtain ⟨Ao18, co18, eo18⟩ := Kd.R_slice HO129.out; subst eo18))
      go_loopg [44] k1 (fun kq v44 w' => ∃ (x15_2 : List Int) (x44_2 : Int), v44 = .int .i64 x44_2 ∧ Aside0 (spec_l13Moved.l1 kq a3 (a1 / 4) (a2 / 4) (Go.bits .and .i64 a1 3) (Go.bits .and .i64 a2 3) x13_1 x36_1 x15_2 (y124.length : Int) x36_1 (y127.length : Int) x44_2 a0_0 a0_1 l0_2 = some r) ∧ Aside0 (kq ≤ k1) ∧ Aside0 (Kd.S (Kd.slice 3 (Kd.int .i64)) 22 w' w.heap.size (fun k_ => some k_ ≠ ((.slice Ao18 y127.length co18) : Value).ownBlock) (.slice Ao11 x13_1.length co11) x13_1) ∧ Aside0 (Kd.R (Kd.int .i64) 3 w' w.heap.size (fun _ => True) (.slice Ao18 y127.length co18) x15_2) ∧ Aside0 (w'.heap[gb123]? = some (.cells #[.int .i64 a0_0, .int .i64 a0_1, (.slice A0_2 l0_2.length c0_2)] 29 (0, 0))) ∧ Aside0 (Below w.heap.size w w'))
      case atStart => exact ⟨(y127), (0), (by first | rfl | (simp; done) | (simp [*]; done)), H', ⟨Nat.le_refl _⟩, ⟨by (try simp only [hl13_1]); (with_reducible repeat (first | apply Kd.S_alloc | apply Kd.S_drewN | apply Kd.S_drew)); exact Kd.S_mono HO_13.out (fun _ hk => hk.2)⟩, ⟨by (try simp only [hl13_1]); (with_reducible repeat (first | apply Kd.R_alloc | apply Kd.R_drewN | apply Kd.R_drew)); exact HO129.out⟩, ⟨by (try simp only [hl13_1]); (with_reducible repeat (first | refine blk_drewN ?_ _ | refine blk_drew ?_ | refine blk_alloc ?_ _)); exact BK123.out⟩, ⟨by repeat (first | (with_reducible first | exact HB.out | apply below_alloc | apply pw_below_drewN | apply below_drew1 | refine below_set ?_ GE123.out) | exact HB.out)⟩⟩
      case round =>
        clear H'
        try clear c1
        try clear p2
        try clear c6
        try clear c6b0
        try clear c6b1
        try clear p6
        try clear c7
        try clear c7b0
        try clear c7b1
        try clear c12
        try clear c12b0
        try clear c14
        try clear c14b0
        try clear c14b1
        try clear c15
        try clear c15b0
        try clear c15b1
        try clear p2
        try clear p6
        obtain ⟨x15_2, x44_2, rfl, HA, HK2, HO_13, HO_15, BK123, HB⟩ := hrel
        have hl15_2 := (Kd.R_reads' HO_15.out).1
        rw [hl15_2] at HO_15
        (try simp only [hl15_2])
        (try simp only [hl15_2] at BK123)
        (try simp only [hl15_2] at HO_13)
        cases gk with
        | zero => exact absurd HA.out (by simp [spec_l13Moved.l1])
        | succ k2 =>
          have H := HA.out
          clear HA
          simp only [spec_l13Moved.l1] at H
          by_cases c19 : x44_2 < (y127.length : Int)
          · rw [if_pos c19] at H
            have c19b0 : decide (x44_2 < (y127.length : Int)) = true := decide_eq_true c19
            (try simp only [hl13_1] at c19b0)
            (try simp only [hl15_2] at c19b0)
            clear c19
            replace H := Option.bind_eq_some_iff.mp H
            obtain ⟨t130, A200, H⟩ := H
            replace H : (if 0 ≤ x44_2 then (if x44_2 < (x15_2.length : Int) then (spec_l13Moved.l1 k2 a3 (a1 / 4) (a2 / 4) (Go.bits .and .i64 a1 3) (Go.bits .and .i64 a2 3) x13_1 x36_1 (x15_2.set (x44_2 : Int).toNat t130) (y124.length : Int) x36_1 (y127.length : Int) (wrap64 (x44_2 + 1)) a0_0 a0_1 l0_2) else (none)) else (none)) = some r := H
            have A20 := Aside0.mk A200
            clear A200
            by_cases c21 : 0 ≤ x44_2
            rotate_left
            · rw [if_neg c21] at H
              exact absurd H (by simp)
            rw [if_pos c21] at H
            have c21b0 : decide (0 ≤ x44_2) = true := decide_eq_true c21
            clear c21
            by_cases c22 : x44_2 < (x15_2.length : Int)
            rotate_left
            · rw [if_neg c22] at H
              exact absurd H (by simp)
            rw [if_pos c22] at H
            have c22b0 : decide (x44_2 < (x15_2.length : Int)) = true := decide_eq_true c22
            (try simp only [hl13_1] at c22b0)
            (try simp only [hl15_2] at c22b0)
            clear c22
            obtain ⟨y131, hy131⟩ : ∃ y_ : List Int, y_ = (x15_2.set (x44_2 : Int).toNat t130) := ⟨_, rfl⟩
            replace H : (spec_l13Moved.l1 k2 a3 (a1 / 4) (a2 / 4) (Go.bits .and .i64 a1 3) (Go.bits .and .i64 a2 3) x13_1 x36_1 y131 (y124.length : Int) x36_1 (y127.length : Int) (wrap64 (x44_2 + 1)) a0_0 a0_1 l0_2) = some r := by first | (rw [hy131]; with_reducible exact H) | (have H2_ := (Option.bind_some _ _).symm.trans H; rw [hy131]; with_reducible exact H2_) | (have H2_ := (Option.bind_some _ _).symm.trans H; with_reducible exact H2_) | with_reducible exact H | (rw [hy131]; exact H) | exact H
            have Ny131 := Aside0.mk hy131
            clear hy131
            have H' := Aside0.mk H
            clear H
            have hcz24_0 : wr.cell? ⟨gb123, 0, none⟩ = some (.int .i64 a0_0) := (blk_cell BK123.out 0).trans rfl
            have hcz24_1 : wr.cell? ⟨gb123, 1, none⟩ = some (.int .i64 a0_1) := (blk_cell BK123.out 1).trans rfl
            have hcz24_2 : wr.cell? ⟨gb123, 2, none⟩ = some (.slice A0_2 l0_2.length c0_2) := (blk_cell BK123.out 2).trans rfl
            have hfz24_0 := blk_frozen BK123.out 0
            have hfz24_1 := blk_frozen BK123.out 1
            have hfz24_2 := blk_frozen BK123.out 2
            go_wp2_with (first | ((with_reducible refine gate_callee (f := 187) rfl ?_); refine goesL_ (some 58) rfl rfl Try.func187 (by kernel_rfl) rfl #[.agg #[.int .i64 a0_0, .int .i64 a0_1, .slice A0_2 l0_2.length c0_2], .int .i64 (wrap64 ((wrap64 ((a1 / 4) - 2)) + x44_2)), .int .i64 (wrap64 ((wrap64 ((a2 / 4) - 2)) + x36_1))] rfl (by (try simp only [List.map_toArray, List.map_cons, List.map_nil]); first | done | rfl | (simp only [List.length_drop, List.length_take]; rfl)) ?_; (with_reducible refine (spec_l7At.calls k2 a0_0 a0_1 _ _ l0_2 (wrap64 ((wrap64 ((a1 / 4) - 2)) + x44_2)) (wrap64 ((wrap64 ((a2 / 4) - 2)) + x36_1)) t130 _ ?side1 ?side2 A20.out).mono ?_); (case side1 => repeat (first | exact (Kd.C_below HR0_2.out HB.out) | (with_reducible refine Kd.C_alloc ?_ _) | (with_reducible refine Kd.C_drewN ?_ _) | (with_reducible refine Kd.C_drew ?_))); (case side2 => exact HC0_2.out); rintro e w25 ⟨rfl, hb⟩; refine ⟨_, rfl, ?_⟩; have n0_ := Aside0.mk (Kd.S_below (by (with_reducible repeat (first | apply Kd.S_alloc | apply Kd.S_drewN | apply Kd.S_drew)); exact HO_13.out) hb); have n1_ := Aside0.mk (Kd.R_below (by (with_reducible repeat (first | apply Kd.R_alloc | apply Kd.R_drewN | apply Kd.R_drew)); exact HO_15.out) hb); have n2_ := Aside0.mk (blk_below (g := gb123) (o := .cells #[.int .i64 a0_0, .int .i64 a0_1, .slice A0_2 l0_2.length c0_2] 29 (0, 0)) (by (with_reducible repeat (first | refine blk_drewN ?_ _ | refine blk_drew ?_ | refine blk_alloc ?_ _)); exact BK123.out) hb); have n3_ := Aside0.mk (below_step (by repeat (first | (with_reducible first | exact HB.out | apply below_alloc | apply pw_below_drewN | apply below_drew1 | refine below_set ?_ GE123.out) | exact HB.out)) hb); clear HO_13; clear HO_15; clear BK123; clear HB; have HO_13 := n0_; have HO_15 := n1_; have BK123 := n2_; have HB := n3_; clear n0_ n1_ n2_ n3_; (try clear hb); (try clear hb2); (try clear hk); (try clear hi); have p23 : 0 ≤ (x44_2 : Int) := of_decide_eq_true (by first | (with_reducible assumption) | assumption); have q23 : (x44_2 : Int) < ((x15_2.length : Int) : Int) := of_decide_eq_true (by first | (with_reducible assumption) | assumption); obtain ⟨go23, co23, eo23, gb23, gl23, cl23, HG23⟩ := Kd.R_form HO_15.out (by omega); (first | cases eo23 | (injection eo23 with ea_ en_ ec_; (first | subst ea_ | (injection ea_ with ea_; subst ea_)); subst ec_; clear en_)); have GB23 := Aside0.mk gb23; have GG23 := Aside0.mk HG23; clear gb23 gl23 HG23; obtain ⟨hx23_0, hf23_0⟩ := Kd.R_celln 0 HO_15.out (x44_2 : Int) p23 q23; replace p23 := eq_true p23; replace q23 := eq_true q23; obtain ⟨hy26_, hz26_⟩ := Kd.R_celln 0 HO_15.out (x44_2 : Int) (of_decide_eq_true (by first | (with_reducible assumption) | assumption)) (of_decide_eq_true (by first | (with_reducible assumption) | assumption)); have HP26 := Kd.R_putg HO_15.out (x44_2 : Int) t130) | ((with_reducible refine gate_store (t := 3) (p := 59) rfl ?_); refine store_event (t := 3) (p := 59) (v := ?vo_w27) (w1 := (w25.setCell ⟨go23, (x44_2 : Int).toNat, none⟩ (.int .i64 t130))) ?hg ?ho ?hn ?hr ?_; (case ho => rfl); (case hg => rfl); (case hn => rfl); (case hr => first | (go_simp; done) | (go_simp; rfl)); intro w27 hw; have hg : w25.grownBy w27 (some go23) := (by rw [hw]; exact HP26.2); have hp_ : Kd.R (Kd.int .i64) 3 w27 w.heap.size (fun _ => True) (.slice (some ⟨go23, 0, none⟩) x15_2.length co18) y131 := (by rw [hw, Ny131.out]; exact HP26.1); clear HP26; have n0_ := Aside0.mk (Kd.S_after (v := (.slice (some ⟨go23, 0, none⟩) x15_2.length co18)) (v1 := (.slice (some ⟨go23, 0, none⟩) x15_2.length co18)) (ok := (fun _ => True)) (by (with_reducible repeat (first | apply Kd.S_alloc | apply Kd.S_drewN | apply Kd.S_drew)); exact Kd.S_mono HO_13.out (fun _ hk => ⟨trivial, hk⟩)) hg (.inl rfl)); have n1_ := Aside0.mk (hp_); have n2_ := Aside0.mk (blk_grown (g := gb123) (o := .cells #[.int .i64 a0_0, .int .i64 a0_1, .slice A0_2 l0_2.length c0_2] 29 (0, 0)) (by (with_reducible repeat (first | refine blk_drewN ?_ _ | refine blk_drew ?_ | refine blk_alloc ?_ _)); exact BK123.out) hg (Kd.R_ne HO_15.out BK123.out (by decide))); have n3_ := Aside0.mk ((by rw [hw]; exact below_set (HB.out) GB23.out : Below w.heap.size w w27)); clear HO_13; clear HO_15; clear BK123; clear HB; have HO_13 := n0_; have HO_15 := n1_; have BK123 := n2_; have HB := n3_; clear n0_ n1_ n2_ n3_; clear hg hw hp_))
            (try simp only [← hl15_2])
            go_roundg k2
            case measure => have := HK1.out; have := HK2.out; omega
            case rel => exact ⟨(y131), (wrap64 (x44_2 + 1)), (by first | rfl | (simp; done) | (simp [*]; done)), H', ⟨by have := HK1.out; have := HK2.out; omega⟩, ⟨by (try simp only [hl13_1]); (try simp only [hl15_2]); (with_reducible repeat (first | apply Kd.S_alloc | apply Kd.S_drewN | apply Kd.S_drew)); exact Kd.S_mono HO_13.out (fun _ hk => hk.2)⟩, ⟨by (try simp only [hl13_1]); (try simp only [hl15_2]); (with_reducible repeat (first | apply Kd.R_alloc | apply Kd.R_drewN | apply Kd.R_drew)); exact HO_15.out⟩, ⟨by (try simp only [hl13_1]); (try simp only [hl15_2]); (with_reducible repeat (first | refine blk_drewN ?_ _ | refine blk_drew ?_ | refine blk_alloc ?_ _)); exact BK123.out⟩, ⟨by repeat (first | (with_reducible first | exact HB.out | apply below_alloc | apply pw_below_drewN | apply below_drew1 | refine below_set ?_ GE123.out) | exact HB.out)⟩⟩
          rw [if_neg c19] at H
          have c19b0 : decide (x44_2 < (y127.length : Int)) = false := decide_eq_false c19
          (try simp only [hl13_1] at c19b0)
          (try simp only [hl15_2] at c19b0)
          clear c19
          have H' := Aside0.mk H
          clear H
          go_wp2
          go_loopg [17] k2 (fun kq v17 w' => ∃ (x13_3 : List (List Int)) (x17_3 : Int), v17 = .int .i64 x17_3 ∧ Aside0 (spec_l13Moved.l2 kq a3 (a1 / 4) (a2 / 4) (Go.bits .and .i64 a1 3) (Go.bits .and .i64 a2 3) x13_3 x36_1 x15_2 x17_3 (y124.length : Int) x36_1 a0_0 a0_1 l0_2 = some r) ∧ Aside0 (kq ≤ k2) ∧ Aside0 (Kd.S (Kd.slice 3 (Kd.int .i64)) 22 w' w.heap.size (fun k_ => some k_ ≠ ((.slice Ao18 x15_2.length co18) : Value).ownBlock) (.slice Ao11 x13_1.length co11) x13_3) ∧ Aside0 (Kd.R (Kd.int .i64) 3 w' w.heap.size (fun _ => True) (.slice Ao18 x15_2.length co18) x15_2) ∧ Aside0 (w'.heap[gb123]? = some (.cells #[.int .i64 a0_0, .int .i64 a0_1, (.slice A0_2 l0_2.length c0_2)] 29 (0, 0))) ∧ Aside0 (Below w.heap.size w w'))
          case atStart => exact ⟨(x13_1), (0), (by first | rfl | (simp; done) | (simp [*]; done)), H', ⟨Nat.le_refl _⟩, ⟨by (try simp only [hl13_1]); (try simp only [hl15_2]); (with_reducible repeat (first | apply Kd.S_alloc | apply Kd.S_drewN | apply Kd.S_drew)); exact HO_13.out⟩, ⟨by (try simp only [hl13_1]); (try simp only [hl15_2]); (with_reducible repeat (first | apply Kd.R_alloc | apply Kd.R_drewN | apply Kd.R_drew)); exact HO_15.out⟩, ⟨by (try simp only [hl13_1]); (try simp only [hl15_2]); (with_reducible repeat (first | refine blk_drewN ?_ _ | refine blk_drew ?_ | refine blk_alloc ?_ _)); exact BK123.out⟩, ⟨by repeat (first | (with_reducible first | exact HB.out | apply below_alloc | apply pw_below_drewN | apply below_drew1 | refine below_set ?_ GE123.out) | exact HB.out)⟩⟩
          case round =>
            clear H'
            try clear c1
            try clear c2
            try clear p2
            try clear q2
            try clear hx2
            try clear c6
            try clear c6b0
            try clear c6b1
            try clear p6
            try clear c7
            try clear c7b0
            try clear c7b1
            try clear c12
            try clear c12b0
            try clear c14
            try clear c14b0
            try clear c14b1
            try clear c15
            try clear c15b0
            try clear c15b1
            try clear c18
            try clear c19
            try clear c19b0
            try clear c21
            try clear c21b0
            try clear c22
            try clear c22b0
            try clear p23
            try clear q23
            try clear hx23
            try clear hf23
            try clear hcz24_0
            try clear hcz24_1
            try clear hcz24_2
            try clear hfz24_0
            try clear hfz24_1
            try clear hfz24_2
            try clear hx23_0
            try clear p2
            try clear p23
            try clear p6
            try clear q23
            obtain ⟨x13_3, x17_3, rfl, HA, HK3, HO_13, HO_15, BK123, HB⟩ := hrel
            have hl13_3 := (Kd.S_reads' HO_13.out).1
            rw [hl13_3] at HO_13
            (try simp only [hl13_3])
            (try simp only [hl13_3] at BK123)
            (try simp only [hl13_3] at HO_15)
            cases gk with
            | zero => exact absurd HA.out (by simp [spec_l13Moved.l2])
            | succ k3 =>
              have H := HA.out
              clear HA
              simp only [spec_l13Moved.l2] at H
              by_cases c28 : x17_3 < a3
              rotate_left
              · rw [if_neg c28] at H
                have c28b0 : decide (x17_3 < a3) = false := decide_eq_false c28
                clear c28
                have H' := Aside0.mk H
                clear H
                go_wp2
                (try simp only [← hl13_1, ← hl15_2, ← hl13_3])
                go_roundg k3
                case measure => have := HK1.out; have := HK2.out; have := HK3.out; omega
                case rel => exact ⟨(x13_3), (wrap64 (x36_1 + 1)), (by first | rfl | (simp; done) | (simp [*]; done)), H', ⟨by have := HK1.out; have := HK2.out; have := HK3.out; omega⟩, ⟨by (try simp only [hl13_1]); (try simp only [hl15_2]); (try simp only [hl13_3]); (with_reducible repeat (first | apply Kd.S_alloc | apply Kd.S_drewN | apply Kd.S_drew)); exact Kd.S_mono HO_13.out (fun _ hk => trivial)⟩, ⟨by (try simp only [hl13_1]); (try simp only [hl15_2]); (try simp only [hl13_3]); (with_reducible repeat (first | refine blk_drewN ?_ _ | refine blk_drew ?_ | refine blk_alloc ?_ _)); exact BK123.out⟩, ⟨by repeat (first | (with_reducible first | exact HB.out | apply below_alloc | apply pw_below_drewN | apply below_drew1 | refine below_set ?_ GE123.out) | exact HB.out)⟩⟩
              rw [if_pos c28] at H
              have c28b0 : decide (x17_3 < a3) = true := decide_eq_true c28
              clear c28
              by_cases c29 : 0 ≤ x36_1
              rotate_left
              · rw [if_neg c29] at H
                exact absurd H (by simp)
              rw [if_pos c29] at H
              have c29b0 : decide (0 ≤ x36_1) = true := decide_eq_true c29
              clear c29
              by_cases c30 : x36_1 < (x13_3.length : Int)
              rotate_left
              · rw [if_neg c30] at H
                exact absurd H (by simp)
              rw [if_pos c30] at H
              have c30b0 : decide (x36_1 < (x13_3.length : Int)) = true := decide_eq_true c30
              (try simp only [hl13_1] at c30b0)
              (try simp only [hl15_2] at c30b0)
              (try simp only [hl13_3] at c30b0)
              clear c30
              replace H := Option.bind_eq_some_iff.mp H
              obtain ⟨t133, A310, H⟩ := H
              replace H : (if (rd_L1 x13_3 x36_1).length < 17592186044416 then (spec_l13Moved.l2 k3 a3 (a1 / 4) (a2 / 4) (Go.bits .and .i64 a1 3) (Go.bits .and .i64 a2 3) (x13_3.set (x36_1 : Int).toNat ((rd_L1 x13_3 x36_1) ++ [t133])) x36_1 x15_2 (wrap64 (x17_3 + 1)) (y124.length : Int) x36_1 a0_0 a0_1 l0_2) else (none)) = some r := H
              have A31 := Aside0.mk A310
              clear A310
              by_cases c32 : (rd_L1 x13_3 x36_1).length < 17592186044416
              rotate_left
              · rw [if_neg c32] at H
                exact absurd H (by simp)
              rw [if_pos c32] at H
              have LMc32 := Aside0.mk c32
              clear c32
              obtain ⟨y134, hy134⟩ : ∃ y_ : List Int, y_ = ((rd_L1 x13_3 x36_1) ++ [t133]) := ⟨_, rfl⟩
              replace H : (spec_l13Moved.l2 k3 a3 (a1 / 4) (a2 / 4) (Go.bits .and .i64 a1 3) (Go.bits .and .i64 a2 3) (x13_3.set (x36_1 : Int).toNat y134) x36_1 x15_2 (wrap64 (x17_3 + 1)) (y124.length : Int) x36_1 a0_0 a0_1 l0_2) = some r := by first | (rw [hy134]; with_reducible exact H) | (have H2_ := (Option.bind_some _ _).symm.trans H; rw [hy134]; with_reducible exact H2_) | (have H2_ := (Option.bind_some _ _).symm.trans H; with_reducible exact H2_) | with_reducible exact H | (rw [hy134]; exact H) | exact H
              have Ny134 := Aside0.mk hy134
              clear hy134
              obtain ⟨y137, hy137⟩ : ∃ y_ : List (List Int), y_ = (x13_3.set (x36_1 : Int).toNat y134) := ⟨_, rfl⟩
              replace H : (spec_l13Moved.l2 k3 a3 (a1 / 4) (a2 / 4) (Go.bits .and .i64 a1 3) (Go.bits .and .i64 a2 3) y137 x36_1 x15_2 (wrap64 (x17_3 + 1)) (y124.length : Int) x36_1 a0_0 a0_1 l0_2) = some r := by first | (rw [hy137]; with_reducible exact H) | (have H2_ := (Option.bind_some _ _).symm.trans H; rw [hy137]; with_reducible exact H2_) | (have H2_ := (Option.bind_some _ _).symm.trans H; with_reducible exact H2_) | with_reducible exact H | (rw [hy137]; exact H) | exact H
              have Ny137 := Aside0.mk hy137
              clear hy137
              have H' := Aside0.mk H
              clear H
              try go_wp2
              have n0_ := Aside0.mk (Kd.S_drew HO_13.out)
              have n1_ := Aside0.mk (Kd.R_drew HO_15.out)
              have n2_ := Aside0.mk (blk_drew BK123.out)
              have n3_ := Aside0.mk (below_drew1 HB.out)
              clear HO_13
              clear HO_15
              clear BK123
              clear HB
              have HO_13 := n0_
              have HO_15 := n1_
              have BK123 := n2_
              have HB := n3_
              clear n0_ n1_ n2_ n3_
              have p132 : 0 ≤ (x36_1 : Int) := of_decide_eq_true (by first | (with_reducible assumption) | assumption)
              have q132 : x36_1 < (x13_3.length : Int) := of_decide_eq_true (by first | (with_reducible assumption) | assumption)
              obtain ⟨ad132, A132_0, c132_0, e132, hx132_0, hl132_0, hi132_0⟩ := at_L1 (Kd.S_reads' HO_13.out).2.2 x36_1 p132 q132
              cases e132
              obtain ⟨ce132, hce132, hMe132, hcc132⟩ := Kd.S_get HO_13.out [] x36_1 p132 (by first | exact q132 | exact of_decide_eq_true (by first | (with_reducible assumption) | assumption) | (have e_ := (Kd.S_reads' HO_13.out).1; omega))
              obtain ⟨ve132_0, rfl, ge132_0⟩ := hMe132
              have hv132_0 := hcc132 0 _ rfl
              rw [Nat.add_zero, show ((Kd.slice 3 (Kd.int .i64))).sz = 1 from rfl, Nat.mul_one] at hv132_0
              replace hv132_0 := Option.some.inj (hv132_0.symm.trans hx132_0)
              rw [hv132_0] at ge132_0
              have HL132_0 := Aside0.mk (show Kd.R (Kd.int .i64) 3 _ _ _ _ (rd_L1 x13_3 x36_1) from ge132_0)
              clear hv132_0 ge132_0
              have HX132_0 := Aside0.mk hx132_0
              clear hcc132 hce132
              have HR132_0 := Aside0.mk hi132_0
              have HC132_0 := Aside0.mk hl132_0
              clear hi132_0 hl132_0
              replace p132 := eq_true p132
              replace q132 := eq_true q132
              refine start_ (n := 15) (S := fun w' => w'.cell? (ad132.add (x36_1).toNat) = some (.slice A132_0 (rd_L1 x13_3 x36_1).length c132_0)) (ds := [14]) #[false, false, false, false, false, false, false, false, false, false, false, false, false, false, false] (by kernel_rfl) rfl rfl (hx132_0) (fun hHeld => ?_); refine with_tabW spec_l13Moved.tab18 spec_l13Moved.bits18 (fun HT_ HW_ => ?_)
              generalize wr.drew = w34 at HO_13 HO_15 BK123 HB HL132_0 HR132_0 HX132_0 hx132_0 hHeld ⊢
              refine pure_ (i := 0) (N := some 66) (v := ?_) (a' := ?_) #[true, false, false, false, false, false, false, false, false, false, false, false, false, false, false] rfl rfl (any_of HT_.out (by kernel_rfl)) (fun _ _ _ h => h) (Or.inl ⟨by rfl, ?_⟩) ?_ ?_
              rotate_left
              · intro w'
                go_simp
                with_reducible rfl
              rotate_left
              · simp only [Act.put, List.setIfInBounds_toArray, List.set_cons_zero, List.set_cons_succ, i64_w, i32_w]
                rfl
              refine pure_ (i := 1) (N := some 67) (v := ?_) (a' := ?_) #[true, true, false, false, false, false, false, false, false, false, false, false, false, false, false] rfl rfl (any_of HT_.out (by kernel_rfl)) (fun _ _ _ h => h) (Or.inl ⟨by rfl, ?_⟩) ?_ ?_
              rotate_left
              · intro w'
                go_simp
                with_reducible rfl
              rotate_left
              · simp only [Act.put, List.setIfInBounds_toArray, List.set_cons_zero, List.set_cons_succ, i64_w, i32_w]
                rfl
              refine pure_ (i := 2) (N := some 68) (v := ?_) (a' := ?_) #[true, true, true, false, false, false, false, false, false, false, false, false, false, false, false] rfl rfl (any_of HT_.out (by kernel_rfl)) (fun _ _ _ h => h) (Or.inl ⟨by rfl, ?_⟩) ?_ ?_
              rotate_left
              · intro w'
                go_simp
                with_reducible rfl
              rotate_left
              · simp only [Act.put, List.setIfInBounds_toArray, List.set_cons_zero, List.set_cons_succ, i64_w, i32_w]
                rfl
              refine pure_ (i := 3) (N := some 69) (v := ?_) (a' := ?_) #[true, true, true, true, false, false, false, false, false, false, false, false, false, false, false] rfl rfl (any_of HT_.out (by kernel_rfl)) (fun _ _ _ h => h) (Or.inl ⟨by rfl, ?_⟩) ?_ ?_
              rotate_left
              · intro w'
                go_simp
                with_reducible rfl
              rotate_left
              · simp only [Act.put, List.setIfInBounds_toArray, List.set_cons_zero, List.set_cons_succ, i64_w, i32_w]
                rfl
              refine pure_ (i := 4) (N := some 70) (v := ?_) (a' := ?_) #[true, true, true, true, true, false, false, false, false, false, false, false, false, false, false] rfl rfl (any_of HT_.out (by kernel_rfl)) (fun _ _ _ h => h) (Or.inl ⟨by rfl, ?_⟩) ?_ ?_
              rotate_left
              · intro w'
                go_simp
                with_reducible rfl
              rotate_left
              · simp only [Act.put, List.setIfInBounds_toArray, List.set_cons_zero, List.set_cons_succ, i64_w, i32_w]
                rfl
              refine pure_ (i := 6) (N := some 72) (v := ?_) (a' := ?_) #[true, true, true, true, true, false, true, false, false, false, false, false, false, false, false] rfl rfl (any_of HT_.out (by kernel_rfl)) (fun _ _ _ h => h) (Or.inl ⟨by rfl, ?_⟩) ?_ ?_
              rotate_left
              · intro w'
                go_simp
                with_reducible rfl
              rotate_left
              · simp only [Act.put, List.setIfInBounds_toArray, List.set_cons_zero, List.set_cons_succ, i64_w, i32_w]
                rfl
              refine pure_ (i := 7) (N := some 73) (v := ?_) (a' := ?_) #[true, true, true, true, true, false, true, true, false, false, false, false, false, false, false] rfl rfl (any_of HT_.out (by kernel_rfl)) (fun _ _ _ h => h) (Or.inl ⟨by rfl, ?_⟩) ?_ ?_
              rotate_left
              · intro w'
                go_simp
                with_reducible rfl
              rotate_left
              · simp only [Act.put, List.setIfInBounds_toArray, List.set_cons_zero, List.set_cons_succ, i64_w, i32_w]
                rfl
              refine pure_ (i := 8) (N := some 74) (v := ?_) (a' := ?_) #[true, true, true, true, true, false, true, true, true, false, false, false, false, false, false] rfl rfl (any_of HT_.out (by kernel_rfl)) (fun _ _ _ h => h) (Or.inl ⟨by rfl, ?_⟩) ?_ ?_
              rotate_left
              · intro w'
                go_simp
                with_reducible rfl
              rotate_left
              · simp only [Act.put, List.setIfInBounds_toArray, List.set_cons_zero, List.set_cons_succ, i64_w, i32_w]
                rfl
              refine pure_ (i := 9) (N := some 75) (v := ?_) (a' := ?_) #[true, true, true, true, true, false, true, true, true, true, false, false, false, false, false] rfl rfl (any_of HT_.out (by kernel_rfl)) (fun _ _ _ h => h) (Or.inl ⟨by rfl, ?_⟩) ?_ ?_
              rotate_left
              · intro w'
                go_simp
                with_reducible rfl
              rotate_left
              · simp only [Act.put, List.setIfInBounds_toArray, List.set_cons_zero, List.set_cons_succ, i64_w, i32_w]
                rfl
              refine take_ (i := 5) (N := some 71) (v := ?_) (a' := ?_) #[true, true, true, true, true, true, true, true, true, true, false, false, false, false, false] rfl rfl (take_ofW HT_.out HW_.out (by kernel_rfl)) (fun _ _ _ h => h) (Or.inl ⟨by rfl, ?_⟩) hHeld ?_ ?_
              rotate_left
              · intro w' s0
                go_simp
                with_reducible rfl
              rotate_left
              · simp only [Act.put, List.setIfInBounds_toArray, List.set_cons_zero, List.set_cons_succ, i64_w, i32_w]
                rfl
              refine one_ (i := 10) (N := some 76) #[true, true, true, true, true, true, true, true, true, true, true, false, false, false, false] rfl rfl (one_of HT_.out (by kernel_rfl)) (by decide) (fun K hK => ?_)
              refine goes_ Try.func188 (by kernel_rfl) rfl #[.slice Ao18 x15_2.length co18, .int .i64 (wrap64 (x17_3 + 2)), .int .i64 (Go.bits .and .i64 a1 3)] (by rfl) rfl rfl (by (try simp only [List.map_toArray, List.map_cons, List.map_nil]); first | done | rfl | (simp only [List.length_drop, List.length_take]; rfl)) ?_
              with_reducible refine (spec_l13Quarter.calls _ _ x15_2 (wrap64 (x17_3 + 2)) (Go.bits .and .i64 a1 3) t133 _ ?side1 ?side2 A31.out).mono ?_
              (case side1 => repeat (first | exact (Kd.R_reads' HO_15.out).2.2 | (with_reducible refine Kd.C_alloc ?_ _) | (with_reducible refine Kd.C_drewN ?_ _) | (with_reducible refine Kd.C_drew ?_)))
              (case side2 => exact (Kd.R_reads' HO_15.out).2.1)
              rintro e w' ⟨rfl, ⟨nd, rfl⟩⟩
              refine ⟨_, rfl, ?_⟩
              obtain ⟨go35, co35, eo35, gb35, gl35, cl35, HG35⟩ := Kd.S_form HO_13.out (by have h_ : (x36_1 : Int) < ((x13_3.length : Int) : Int) := of_decide_eq_true (by first | (with_reducible assumption) | assumption); have h2_ : 0 ≤ (x36_1 : Int) := (of_decide_eq_true (by first | (with_reducible assumption) | assumption)); omega)
              (first | cases eo35 | (injection eo35 with ea_ en_ ec_; (first | subst ea_ | (injection ea_ with ea_; subst ea_)); subst ec_; clear en_))
              have GB35 := Aside0.mk gb35
              have GG35 := Aside0.mk HG35
              clear gb35 gl35 HG35
              (first | simp only [add_plain] at hx132_0 | skip)
              obtain ⟨oki35, ce35, hcl35, hM35, hcc35, _, _, hH35⟩ := Kd.S_elem HO_13.out [] (x36_1 : Int) (of_decide_eq_true (by first | (with_reducible assumption) | assumption)) (by have h_ : (x36_1 : Int) < ((x13_3.length : Int) : Int) := of_decide_eq_true (by first | (with_reducible assumption) | assumption); first | exact h_ | (have e_ := (Kd.S_reads' HO_13.out).1; omega) | simpa using h_)
              obtain ⟨ve35_0, rfl, ge35_0⟩ := hM35
              have hv35 := hcc35 0 _ rfl
              have hX35 := HX132_0.out
              (try simp only [add_plain] at hX35)
              (try simp only [Nat.add_zero] at hv35)
              (try rw [show ((Kd.slice 3 (Kd.int .i64))).sz = 1 from rfl, Nat.mul_one] at hv35)
              replace hv35 := Option.some.inj (hv35.symm.trans hX35)
              subst hv35
              clear hX35 hcc35 hcl35
              have UU35 := Aside0.mk (show Kd.R (Kd.int .i64) 3 _ w.heap.size oki35 (.slice A132_0 (rd_L1 x13_3 x36_1).length c132_0) (rd_L1 x13_3 x36_1) from ge35_0)
              have HH35 := Aside0.mk hH35
              have HN35 := Aside0.mk (Kd.S_reads' HO_13.out).1
              clear hH35 ge35_0
              refine hK.out _ _ (hHeld) (fun hHeld => ?_)
              clear hK K
              refine norm_ (a' := ?_) ?_ ?_
              rotate_left
              · show Act.put _ (some 76) _ = _
                simp only [Act.put, List.setIfInBounds_toArray, List.set_cons_zero, List.set_cons_succ, i64_w, i32_w]
                rfl
              refine one_ (i := 11) (N := some 77) #[true, true, true, true, true, true, true, true, true, true, true, true, false, false, false] rfl rfl (one_of HT_.out (by kernel_rfl)) (by decide) (fun K hK => ?_)
              refine value_ (w1 := ?_) (v := ?_) (by rfl) rfl ?_ ?_
              rotate_left 2
              · go_simp
                constructor
                · rfl
                · rfl
              refine hK.out _ _ ((World.cell?_alloc_lt _ _ _ (World.block_lt_of_cell? _ _ (hHeld))).trans (hHeld)) (fun hHeld => ?_)
              clear hK K
              refine norm_ (a' := ?_) ?_ ?_
              rotate_left
              · show Act.put _ (some 77) _ = _
                simp only [Act.put, List.setIfInBounds_toArray, List.set_cons_zero, List.set_cons_succ, i64_w, i32_w]
                rfl
              refine one_ (i := 12) (N := some 78) #[true, true, true, true, true, true, true, true, true, true, true, true, true, false, false] rfl rfl (one_of HT_.out (by kernel_rfl)) (by decide) (fun K hK => ?_)
              refine Kd.R_append_step (Kd.int .i64) (w0 := w) w.heap.size (by rfl) (.tmp 71) (.tmp 77) 22 3 (.int .i64 0) 8 rfl Try.underlying22 info3 rfl (by decide) (by omega) (.slice A132_0 (rd_L1 x13_3 x36_1).length c132_0) (rd_L1 x13_3 x36_1) t133 [.int .i64 t133] (fun k_ => oki35 k_ ∨ ((fun k_ => some k_ ≠ (.slice Ao18 x15_2.length co18 : Value).ownBlock)) k_ ∧ w34.heap.size ≤ k_) (fun _ => False) rfl rfl ?aP (fun _ hk => hk.elim) ?aF ?aO ?aB ?aS ?aL ?_
              (case aP => exact rfl)
              (case aB => exact (by repeat (first | (with_reducible first | exact HB.out | apply below_alloc | apply pw_below_drewN | apply below_drew1 | refine below_set ?_ GE123.out) | exact HB.out)))
              (case aF => exact (fun k_ hk => .inr ⟨Kd.fresh' (Kd.R_lt (by (with_reducible repeat (first | apply Kd.R_alloc | apply Kd.R_drewN | apply Kd.R_drew)); exact HO_15.out)) k_ hk, hk⟩))
              (case aO => exact (by (with_reducible repeat (first | apply Kd.R_alloc | apply Kd.R_drewN | apply Kd.R_drew)); exact Kd.R_mono UU35.out (fun _ hk => .inl hk)))
              (case aS => exact (below_size (by repeat (first | (with_reducible first | exact HB.out | apply below_alloc | apply pw_below_drewN | apply below_drew1 | refine below_set ?_ GE123.out) | exact HB.out))))
              (case aL => have := LMc32.out; omega)
              intro v135 w36 ho hb hg hat
              (first | have HS0_ := cell_grown hg (hHeld) (by first | (rw [add_block]; exact (fun e_ => ((HL132_0.out.1 _ e_.symm).2) rfl)) | (show some (Addr.add _ _).block ≠ _; rw [add_block]; exact (fun e_ => ((HL132_0.out.1 _ e_.symm).2) rfl)) | exact (fun e_ => ((HL132_0.out.1 _ e_.symm).2) rfl)) | have HS0_ := cell_grown hg (cell_unalloc (hHeld) (by first | (rw [add_block]; exact Kd.S_lt HO_13.out _ rfl) | (show (Addr.add _ _).block < _; rw [add_block]; exact Kd.S_lt HO_13.out _ rfl) | exact Kd.S_lt HO_13.out _ rfl)) (by first | (rw [add_block]; exact (fun e_ => ((HL132_0.out.1 _ e_.symm).2) rfl)) | (show some (Addr.add _ _).block ≠ _; rw [add_block]; exact (fun e_ => ((HL132_0.out.1 _ e_.symm).2) rfl)) | exact (fun e_ => ((HL132_0.out.1 _ e_.symm).2) rfl)))
              rw [← Ny134.out] at ho
              have n0_ := Aside0.mk (Kd.R_grown2 (by (with_reducible repeat (first | apply Kd.R_alloc | apply Kd.R_drewN | apply Kd.R_drew)); exact HO_15.out) rfl hg (fun k_ e_ => (HL132_0.out.1 k_ e_).1))
              have n1_ := Aside0.mk (blk_grown (g := gb123) (o := .cells #[.int .i64 a0_0, .int .i64 a0_1, .slice A0_2 l0_2.length c0_2] 29 (0, 0)) (by (with_reducible repeat (first | refine blk_drewN ?_ _ | refine blk_drew ?_ | refine blk_alloc ?_ _)); exact BK123.out) hg (Kd.R_ne HL132_0.out BK123.out (by decide)))
              have n2_ := Aside0.mk (hb)
              have n3_ := Aside0.mk (Kd.H_grown (Kd.H_widen (by repeat (first | exact HH35.out | refine Kd.H_alloc ?_ _ | refine Kd.H_drewN ?_ _ | refine Kd.H_drew ?_))) hg (fun k_ e_ => .inl (UU35.out.1 k_ e_)))
              have n4_ := Aside0.mk (ho)
              clear HO_15
              clear BK123
              clear HB
              clear HH35
              clear HO_13
              clear UU35
              clear HL132_0
              have HO_15 := n0_
              have BK123 := n1_
              have HB := n2_
              have HH35 := n3_
              have HO136 := n4_
              clear n0_ n1_ n2_ n3_ n4_
              clear ho hb hg hat
              have p33 : 0 ≤ (x36_1 : Int) := of_decide_eq_true (by first | (with_reducible assumption) | assumption)
              have q33 : (x36_1 : Int) < ((x13_3.length : Int) : Int) := of_decide_eq_true (by first | (with_reducible assumption) | assumption)
              replace p33 := eq_true p33
              replace q33 := eq_true q33
              obtain ⟨Ao39, co39, eo39⟩ := Kd.R_slice HO136.out
              (first | subst eo39 | (injection eo39 with f1_ f2_ f3_; have f4_ := f1_.symm; have f5_ := f3_.symm; clear f1_ f2_ f3_; subst f4_; subst f5_))
              obtain ⟨_, _, hraw37, _, _, hcc37, _⟩ := Kd.H_raw HH35.out (of_decide_eq_true (by first | (with_reducible assumption) | assumption)) (by have h_ : (x36_1 : Int) < ((x13_3.length : Int) : Int) := of_decide_eq_true (by first | (with_reducible assumption) | assumption); first | exact h_ | (have e_ := (HN35.out); omega) | simpa using h_)
              obtain ⟨_, hfr37⟩ := Kd.H_at HH35.out (of_decide_eq_true (by first | (with_reducible assumption) | assumption)) (by have h_ : (x36_1 : Int) < ((x13_3.length : Int) : Int) := of_decide_eq_true (by first | (with_reducible assumption) | assumption); first | exact h_ | (have e_ := (HN35.out); omega) | simpa using h_)
              have hx37_0 := hcc37 0 _ rfl
              have hf37_0 := hfr37 0
              (try simp only [Nat.add_zero] at hx37_0 hf37_0)
              (try rw [show ((Kd.slice 3 (Kd.int .i64))).sz = 1 from rfl, Nat.mul_one] at hx37_0)
              (try rw [show ((Kd.slice 3 (Kd.int .i64))).sz = 1 from rfl, Nat.mul_one] at hf37_0)
              have HP37 := Kd.S_seg0 HH35.out (of_decide_eq_true (by first | (with_reducible assumption) | assumption)) (by have h_ : (x36_1 : Int) < ((x13_3.length : Int) : Int) := of_decide_eq_true (by first | (with_reducible assumption) | assumption); first | exact h_ | (have e_ := (HN35.out); omega) | simpa using h_) (seg := [.slice Ao39 y134.length co39]) (j := 0) (show 1 ≤ 1 from by decide) (x' := y134) (Kd.M_row HO136.out) (fun _ hk => hk)
              (try simp only [show ((Kd.slice 3 (Kd.int .i64))).sz = 1 from rfl, Nat.mul_one, Nat.add_zero] at HP37)
              clear hcc37 hfr37
              have HNB123_go35 := Aside0.mk (show gb123 ≠ go35 from by have h_ := Kd.R_ne hraw37 BK123.out (by decide); intro e_; exact h_ (by rw [e_]; rfl))
              have HS37 := HP37.1
              rw [← Ny137.out] at HS37
              have HQ37 := Aside0.mk HS37
              obtain ⟨_, hgg37⟩ := Kd.R_typed hraw37 go35 rfl
              have GG37_ := Aside0.mk hgg37
              clear HP37 HS37 hgg37
              refine hK.out _ _ (HS0_) (fun hHeld => ?_)
              clear hK K
              refine norm_ (a' := ?_) ?_ ?_
              rotate_left
              · show Act.put _ (some 78) _ = _
                simp only [Act.put, List.setIfInBounds_toArray, List.set_cons_zero, List.set_cons_succ, i64_w, i32_w]
                rfl
              refine pure_ (i := 13) (N := some 79) (v := ?_) (a' := ?_) #[true, true, true, true, true, true, true, true, true, true, true, true, true, true, false] rfl rfl (any_of HT_.out (by kernel_rfl)) (fun _ _ _ h => h) (Or.inl ⟨by rfl, ?_⟩) ?_ ?_
              rotate_left
              · intro w'
                go_simp
                with_reducible rfl
              rotate_left
              · simp only [Act.put, List.setIfInBounds_toArray, List.set_cons_zero, List.set_cons_succ, i64_w, i32_w]
                rfl
              refine last_ (i := 14) (N := none) #[true, true, true, true, true, true, true, true, true, true, true, true, true, true, true] rfl rfl (one_of HT_.out (by kernel_rfl)) (by decide) (fun K hK => ?_)
              refine skip_ (w1 := ?_) (by rfl) rfl ?_ ?_
              rotate_left
              · go_simp
                rfl
              refine hK.out _ _ ?_
              clear hK K
              refine done_ (done_of HT_.out (by kernel_rfl)) ?_
              try go_wp2
              (try simp only [← hl13_3])
              go_roundg k3
              case measure => have := HK1.out; have := HK2.out; have := HK3.out; omega
              case rel => exact ⟨(y137), (wrap64 (x17_3 + 1)), (by first | rfl | (simp; done) | (simp [*]; done)), H', ⟨by have := HK1.out; have := HK2.out; have := HK3.out; omega⟩, ⟨by (try simp only [hl13_1]); (try simp only [hl15_2]); (try simp only [hl13_3]); (with_reducible repeat (first | apply Kd.S_alloc | apply Kd.S_drewN | apply Kd.S_drew)); exact HQ37.out⟩, ⟨by (try simp only [hl13_1]); (try simp only [hl15_2]); (try simp only [hl13_3]); (with_reducible repeat (first | apply Kd.R_alloc | apply Kd.R_drewN | apply Kd.R_drew)); exact Kd.R_mono (Kd.R_far (p := ⟨go35, (x36_1 : Int).toNat, none⟩) (Kd.R_types HO_15.out GG37_.out (by decide)) (fun _ hk => hk.2) (.slice Ao39 y134.length co39)) (fun _ hk => trivial)⟩, ⟨by (try simp only [hl13_1]); (try simp only [hl15_2]); (try simp only [hl13_3]); (with_reducible repeat (first | refine blk_drewN ?_ _ | refine blk_drew ?_ | refine blk_alloc ?_ _)); refine blk_far ?_ HNB123_go35.out _; (with_reducible repeat (first | refine blk_drewN ?_ _ | refine blk_drew ?_ | refine blk_alloc ?_ _)); exact BK123.out⟩, ⟨by repeat (first | (with_reducible first | exact HB.out | apply below_alloc | apply pw_below_drewN | apply below_drew1 | refine below_set ?_ GB35.out | refine below_set ?_ GE123.out) | exact HB.out)⟩⟩

end Go.Proofs.Ytglaedjadlappaa.PFnExactBestMotion
